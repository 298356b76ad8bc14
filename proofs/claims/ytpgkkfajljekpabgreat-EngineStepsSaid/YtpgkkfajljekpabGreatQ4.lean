import Derived.Test.YtpgkkfajljekpabGreatQ3
set_option linter.unusedSimpArgs false
set_option linter.unusedVariables false
set_option maxHeartbeats 0
set_option maxRecDepth 1000000
namespace Go.Proofs.YtpgkkfajljekpabGreat
open Go Go.RowKit
variable {α:Type}
abbrev KO (α:Type):=List (Nat × Row)->Ef->Option α
def okB (b:Bool) (k:Option α):Option α:=match b with
 | true=>k
 | false=>none
theorem QaH {b:Bool} {k:Option α} {x:α} (h:okB b k=some x):b=true/\k=some x:=by
 cases b
 .cases h
 .grind [okB]
def okO {β:Type} (e:Option β) (K:β->Option α):Option α:=match e with
 | some b=>K b
 | none=>none
theorem Qak {β:Type} {e:Option β} {K:β->Option α} {x:α} (h:okO e K=some x):∃ b,e=some b/\K b=some x:=by
 cases e with
 | none=>cases h
 | some b=>grind [okO]
def QFI (op:BinOp) (k:IntKind) (m:Int) (k':IntKind) (n:Int) (K:SV->Option α):Option α :=
 match op with
 | .shl=>okB (decide (0<=n)) (K (.int k (k.wrap (m*2^min n.toNat k.bits))))
 | .shr=>okB (decide (0<=n)) (K (.int k (m / 2^min n.toNat k.bits)))
 | .quo=>okB (kEq k k') (okB (!(decide (n=0))) (K (.int k (k.wrap (m.tdiv n)))))
 | .rem=>okB (kEq k k') (okB (!(decide (n=0))) (K (.int k (m.tmod n))))
 | .add=>okB (kEq k k') (K (.int k (k.wrap (m+n))))
 | .sub=>okB (kEq k k') (K (.int k (k.wrap (m-n))))
 | .mul=>okB (kEq k k') (K (.int k (k.wrap (m*n))))
 | .and=>okB (kEq k k') (K (.int k (bits .and k m n)))
 | .or=>okB (kEq k k') (K (.int k (bits .or k m n)))
 | .xor=>okB (kEq k k') (K (.int k (bits .xor k m n)))
 | .andNot=>okB (kEq k k') (K (.int k (bits .andNot k m n)))
 | .eql=>okB (kEq k k') (K (.bool (m==n)))
 | .neq=>okB (kEq k k') (K (.bool (m !=n)))
 | .lss=>okB (kEq k k') (K (.bool (decide (m<n))))
 | .leq=>okB (kEq k k') (K (.bool (decide (m<=n))))
 | .gtr=>okB (kEq k k') (K (.bool (decide (m>n))))
 | .geq=>okB (kEq k k') (K (.bool (decide (m>=n))))
theorem Qw9 {op:BinOp} {k k':IntKind} {m n:Int} {K:SV->Option α} {K':SV->Prop} {x:α} (hK:∀ s,K s=some x->K' s) (h:QFI op k m k' n K=some x):QC5 op k m k' n K':=by
 cases op<;>simp only [QFI,QC5,reduceCtorEq] at h |-
 case shl=>obtain ⟨h1,h2⟩:=QaH h;exact ⟨of_decide_eq_true h1,_,rfl,hK _ h2⟩
 case shr=>obtain ⟨h1,h2⟩:=QaH h;exact ⟨of_decide_eq_true h1,_,rfl,hK _ h2⟩
 case quo=>obtain ⟨h1,h2⟩:=QaH h;obtain ⟨h2,h3⟩:=QaH h2;exact ⟨Qmv h1,by simpa using h2,_,rfl,hK _ h3⟩
 case rem=>obtain ⟨h1,h2⟩:=QaH h;obtain ⟨h2,h3⟩:=QaH h2;exact ⟨Qmv h1,by simpa using h2,_,rfl,hK _ h3⟩
 all_goals (obtain ⟨h1,h2⟩:=QaH h;exact ⟨Qmv h1,_,rfl,hK _ h2⟩)
def QFA (m n:ByteArray):ByteArray:=⟨⟨m.data.toList++n.data.toList⟩⟩
theorem QwL (m n:ByteArray):QFA m n=m++n:=by
 unfold QFA;have:(m++n).data=m.data++n.data:=ByteArray.data_append;have h2:m++n=⟨(m++n).data⟩:=rfl;rw [h2,this];congr 1
def QFD (s:ByteArray) (l h:Nat):ByteArray:=⟨⟨(s.data.toList.drop l).take (h-l)⟩⟩
theorem QwQ (s:ByteArray) (l h:Nat):QFD s l h=s.extract l h:=by
 unfold QFD;have:(s.extract l h).data=s.data.extract l h:=ByteArray.data_extract;have h2:s.extract l h=⟨(s.extract l h).data⟩:=rfl;rw [h2,this];congr 1;apply Array.ext';simp [List.take_drop]
def QFL (op:BinOp) (m n:ByteArray) (K:SV->Option α):Option α :=
 match op with
 | .add=>okB (Nat.ble (m.size+n.size) 9223372036854775807) (K (.str (QFA m n)))
 | .eql=>K (.bool (Qeb m.data.toList n.data.toList))
 | .neq=>K (.bool (!(Qeb m.data.toList n.data.toList)))
 | _=>none
theorem Qxd {op:BinOp} {m n:ByteArray} {K:SV->Option α} {K':SV->Prop} {x:α} (hK:∀ s,K s=some x->K' s) (h:QFL op m n K=some x):QC8 op m n K':=by
 cases op<;>simp only [QFL,QC8,reduceCtorEq] at h |-
 case add=>obtain ⟨h1,h2⟩:=QaH h;exact ⟨Nat.le_of_ble_eq_true h1,_,rfl,by rw [<- QwL];exact hK _ h2⟩
 case eql=>exact ⟨_,rfl,by rw [ByteArray.toList_eq,ByteArray.toList_eq,<- QbQ];exact hK _ h⟩
 case neq=>exact ⟨_,rfl,by rw [ByteArray.toList_eq,ByteArray.toList_eq,<- QbQ];exact hK _ h⟩
abbrev EqT (P:Program):= { l:TypeId->Option (List SK) // ∀ t ks,l t=some ks->∀ l1 l2 b,QaQ ks l1 l2=some b->QAT P t l1 l2 b }
def QFH {P:Program} (E:EqT P) (T:Tys) (op:BinOp) (t:TypeId) (x y:TV) (K:SV->Option α):Option α :=
 match x,y with
 | .a (.s (.int k m)),.a (.s (.int k' n))=>QFI op k m k' n K
 | .a (.s (.str m)),.a (.s (.str n))=>QFL op m n K
 | .a (.s (.bool m)),.a (.s (.bool n))=>(match T t with
  | some ty=>(match ty.kind with
   | .bool=>(match op with
    | .eql=>K (.bool (m==n))
    | .neq=>K (.bool (!(m==n)))
    | _=>none)
   | _=>none)
  | none=>none)
 | .a (.agg l),.a (.agg l')=>okO (E.1 t) fun ks=>okO (QaQ ks l l') fun b=>(match op with
  | .eql=>K (.bool b)
  | .neq=>K (.bool !b)
  | _=>none)
 | .a (.s (.sl _ _ n)),.a (.s .nilsl)=>okO (T t) fun y=>(match y.kind with
  | .slice _=>okB (Nat.blt 0 n) (match op with
   | .eql=>K (.bool false)
   | .neq=>K (.bool true)
   | _=>none)
  | _=>none)
 | .a (.s .nilsl),.a (.s .nilsl)=>okO (T t) fun y=>(match y.kind with
  | .slice _=>(match op with
   | .eql=>K (.bool true)
   | .neq=>K (.bool false)
   | _=>none)
  | _=>none)
 | _,_=>none
theorem Qw6 {P:Program} {det:Bool} {E:EqT P} {T:Tys} {op:BinOp} {t:TypeId} {v w:TV} {K:SV->Option α} {K':SV->Prop} {x:α} (hK:∀ s,K s=some x->K' s) (h:QFH E T op t v w K=some x):QC4 P T det op t v w K':=by
 unfold QFH at h;unfold QC4;split at h
 .exact Qw9 hK h
 .exact Qxd hK h
 .split at h
  .rename_i ty hty
   rw [hty];split at h
   .rename_i hk
    refine ⟨hk,?_⟩;split at h
    .exact ⟨_,rfl,hK _ h⟩
    .exact ⟨_,rfl,hK _ h⟩
    .cases h
   .cases h
  .cases h
 .obtain ⟨ks,h1,h2⟩:=Qak h
  obtain ⟨b,h4,h3⟩:=Qak h2;split at h3
  .exact ⟨b,E.2 t ks h1 _ _ b h4,hK _ h3⟩
  .exact ⟨b,E.2 t ks h1 _ _ b h4,hK _ h3⟩
  .cases h3
 .obtain ⟨_,h1,h2⟩:=Qak h
  rw [h1];split at h2
  .rename_i hk
   simp only [hk];obtain ⟨h3,h4⟩:=QaH h2;have h3:=Nat.le_of_ble_eq_true h3;split at h4
   .exact .pos h3 (hK _ h4)
   .exact .pos h3 ⟨_,rfl,hK _ h4⟩
   .cases h4
  .cases h2
 .obtain ⟨_,h1,h2⟩:=Qak h
  rw [h1];split at h2
  .grind
  .cases h2
 .cases h
def dUn (op:UnOp) (x:TV) (K:SV->Option α):Option α :=
 match op,x with
 | .not,.a (.s (.bool b))=>K (.bool (!b))
 | .neg,.a (.s (.int k n))=>K (.int k (k.wrap (0-n)))
 | .xor,.a (.s (.int k n))=>K (.int k (bits .xor k (if k.signed then -1 else k.max) n))
 | _,_=>none
theorem QBn {op:UnOp} {v:TV} {K:SV->Option α} {K':SV->Prop} {x:α} (hK:∀ s,K s=some x->K' s) (h:dUn op v K=some x):vUn op v K':=by
 unfold dUn at h;unfold vUn;split at h
 .exact ⟨_,rfl,hK _ h⟩
 .exact ⟨_,rfl,hK _ h⟩
 .exact ⟨_,rfl,hK _ h⟩
 .cases h
def QFJ (T:Tys) (t:TypeId) (x:TV) (K:SV->Option α):Option α :=
 match x with
 | .a (.s (.sl _ _ n))=>(match T t with|some y=>(match y.kind with| .slice _=>K (.int .i64 n)|_=>none)|none=>none)
 | .a (.s .nilsl)=>(match T t with|some y=>(match y.kind with| .slice _=>K (.int .i64 0)|_=>none)|none=>none)
 | .a (.s (.str s))=>(match T t with|some y=>(match y.kind with| .str=>K (.int .i64 s.size)|_=>none)|none=>none)
 | _=>none
theorem Qxa {T:Tys} {t:TypeId} {v:TV} {K:SV->Option α} {K':SV->Prop} {x:α} (hK:∀ s,K s=some x->K' s) (h:QFJ T t v K=some x):QC6 T t v K':=by
 unfold QFJ at h;unfold QC6;split at h
 all_goals first
  | (cases h;done)
  | (
    split at h
    .grind
    .cases h)
def QF4 (T:Tys) (tx:TypeId) (y:TV):Bool :=
 match y with
 | .a (.s (.str _))=>(match T tx with|some z=>(match z.kind with| .str=>true|_=>false)|none=>false)
 | .a (.s .nilsl)| .a (.s (.sl _ _ _))=>(match T tx with|some z=>(match z.kind with| .slice _=>true|_=>false)|none=>false)
 | _=>false
theorem Qx3 {T:Tys} {tx:TypeId} {y:TV} (h:QF4 T tx y=true):Qdz T tx y:=by
 unfold QF4 at h;unfold Qdz;split at h
 all_goals first
  | (cases h;done)
  | (
    split at h
    .grind
    .cases h)
def QAu (cells:List SV) (o n:Nat) (K:List SV->Option α):Option α:=okB (Nat.ble (o+n) cells.length) (K ((cells.drop o).take n))
theorem Qib {cells:List SV} {o n:Nat} {K:List SV->Option α} {x:α} (h:QAu cells o n K=some x):∃ l,(l.length=n/\∀ (j:Nat) s,l[j]?=some s->cells[o+j]?=some s)/\K l=some x:=by
 obtain ⟨h1,h2⟩:=QaH h;have h1:=Nat.le_of_ble_eq_true h1;refine ⟨_,⟨by simp;omega,fun j s hs=>?_⟩,h2⟩;rw [List.getElem?_take] at hs;split at hs
 .grind
 .cases hs
def dSk (cells:List SV) (o n:Nat) (K:List SV->Option α):Option α:=QAu cells o n fun l=>okB (Qat l) (K l)
theorem QvA {cells:List SV} {o n:Nat} {K:List SV->Option α} {x:α} (h:dSk cells o n K=some x):∃ l,(l.length=n/\Qat l=true/\∀ (j:Nat) s,l[j]?=some s->cells[o+j]?=some s)/\K l=some x:=by grind [Qib,QaH,dSk,Qat]
def QFK (hp:Hp) (es:Nat) (y:TV) (K:List (Nat × Row)->Nat->List SV->Option α):Option α :=
 match y with
 | .a (.s .nilsl)=>K [] 0 []
 | .a (.s (.sl j k m))=>okO (hp j) fun r=>dSk r.cells k (m*es) fun l=>K [(j,r)] m l
 | .a (.s (.str s))=>okB (Nat.beq es 1) (K [] s.size (QcA s))
 | _=>none
theorem Qxc {hp:Hp} {es:Nat} {y:TV} {K:List (Nat × Row)->Nat->List SV->Option α} {K':List (Nat × Row)->Nat->List SV->Prop} {x:α} (hK:∀ a b c,K a b c=some x->K' a b c) (h:QFK hp es y K=some x):QC7 hp es y K':=by
 unfold QFK at h;unfold QC7;split at h
 .grind
 .obtain ⟨r,h1,h2⟩:=Qak h
  obtain ⟨l,h3,h4⟩:=QvA h2;exact ⟨r,h1,l,h3,hK _ _ _ h4⟩
 .obtain ⟨h1,h2⟩:=QaH h
  exact ⟨zbq h1,hK _ _ _ h2⟩
 .cases h
def Qk1 (T:Tys) (hp:Hp) (n0:Nat) (t tx:TypeId) (x y:TV) (K:KO α):Option α :=
 okO (T t) fun yt=>(match yt.kind with
  | .slice e=>okO (T e) fun ye=>okB (QF4 T tx y) (QFK hp ye.size y fun fp m l=>(match x with
    | .a (.s .nilsl)=>okB (Nat.ble (m*ye.bytes) 140737488355328&&Nat.ble m 9223372036854775807) (K fp ⟨.a (.s (.sl n0 0 m)),[],[(n0,⟨true,ye.size,l⟩)]⟩)
    | .a (.s (.sl i k n))=>okB (Nat.beq k 0) (okO (hp i) fun r=>okB (r.own&&Nat.beq r.es ye.size&&Nat.beq r.cells.length (n*ye.size)&&Nat.ble ((n+m)*ye.bytes) 140737488355328&&Nat.ble (n+m) 9223372036854775807)
      (K ((i,r)::fp) ⟨.a (.s (.sl n0 0 (n+m))),[(i,none)],[(n0,⟨true,ye.size,r.cells++l⟩)]⟩))
    | _=>none))
  | _=>none)
theorem Qns {T:Tys} {hp:Hp} {n0:Nat} {t tx:TypeId} {v w:TV} {K:KO α} {K':KK} {x:α} (hK:∀ a b,K a b=some x->K' a b) (h:Qk1 T hp n0 t tx v w K=some x):Qhb T hp n0 t tx v w K':=by
 unfold Qk1 at h;unfold Qhb;obtain ⟨_,h1,h2⟩:=Qak h;rw [h1];split at h2
 .rename_i e hk
  simp only [hk];obtain ⟨_,h3,h4⟩:=Qak h2;rw [h3];obtain ⟨h4,h5⟩:=QaH h4;refine ⟨Qx3 h4,Qxc (fun a b c hq=>?_) h5⟩;split at hq
  .obtain ⟨q1,q2⟩:=QaH hq
   simp only [zba] at q1;exact ⟨⟨Nat.le_of_ble_eq_true q1.1,Nat.le_of_ble_eq_true q1.2⟩,hK _ _ q2⟩
  .obtain ⟨q1,q2⟩:=QaH hq
   obtain ⟨r,q2,q3⟩:=Qak q2;obtain ⟨q3,q4⟩:=QaH q3;simp only [zba] at q3;exact ⟨zbq q1,r,q2,⟨q3.1.1.1.1,zbq q3.1.1.1.2,zbq q3.1.1.2,Nat.le_of_ble_eq_true q3.1.2,Nat.le_of_ble_eq_true q3.2⟩,_,rfl,_,rfl,hK _ _ q4⟩
  .cases hq
 .cases h2
def Qxb (hp:Hp) (es:Nat) (y:TV) (n:Nat) (K:List (Nat × Row)->Nat->List SV->Option α):Option α :=
 match y with
 | .a (.s .nilsl)=>K [] 0 []
 | .a (.s (.sl j k m))=>okO (hp j) fun r=>dSk r.cells k (min m n*es) fun l=>K [(j,r)] (min m n) l
 | .a (.s (.str s))=>okB (Nat.beq es 1) (K [] (min s.size n) ((QcA s).take (min s.size n)))
 | _=>none
theorem Qtj {hp:Hp} {es n:Nat} {y:TV} {K:List (Nat × Row)->Nat->List SV->Option α} {K':List (Nat × Row)->Nat->List SV->Prop} {x:α} (hK:∀ a b c,K a b c=some x->K' a b c) (h:Qxb hp es y n K=some x):Qsu hp es y n K':=by
 unfold Qxb at h;unfold Qsu;split at h
 .grind
 .obtain ⟨r,h1,h2⟩:=Qak h
  obtain ⟨l,h3,h4⟩:=QvA h2;exact ⟨_,rfl,r,h1,l,h3,hK _ _ _ h4⟩
 .obtain ⟨h1,h2⟩:=QaH h
  exact ⟨_,rfl,zbq h1,hK _ _ _ h2⟩
 .cases h
def Qw8 (T:Tys) (hp:Hp) (t:TypeId) (x y:TV) (K:KO α):Option α :=
 okO (T t) fun yt=>(match yt.kind with
  | .slice e=>okO (T e) fun ye=>(match x with
    | .a (.s (.sl i k n))=>Qxb hp ye.size y n fun fp q l=>okO (hp i) fun r=>okB (r.own&&Nat.ble (k+l.length) r.cells.length) (K ((i,r)::fp) ⟨.a (.s (.int .i64 q)),[(i,some ⟨r.own,r.es,QaC r.cells k l⟩)],[]⟩)
    | _=>none)
  | _=>none)
theorem Qti {T:Tys} {hp:Hp} {t:TypeId} {v w:TV} {K:KO α} {K':KK} {x:α} (hK:∀ a b,K a b=some x->K' a b) (h:Qw8 T hp t v w K=some x):Qst T hp t v w K':=by
 unfold Qw8 at h;unfold Qst;obtain ⟨_,h1,h2⟩:=Qak h;rw [h1];split at h2
 .rename_i e hk
  simp only [hk];obtain ⟨_,h3,h4⟩:=Qak h2;rw [h3];split at h4
  .refine Qtj (fun a b c hq=>?_) h4
   obtain ⟨r,q2,q3⟩:=Qak hq;obtain ⟨q3,q4⟩:=QaH q3;simp only [zba] at q3;exact ⟨r,q2,⟨q3.1,Nat.le_of_ble_eq_true q3.2⟩,_,rfl,hK _ _ q4⟩
  .cases h4
 .cases h2
def Qw7 (T:Tys) (hp:Hp) (s d:TypeId) (x:TV) (K:KO α):Option α :=
 okO (T s) fun ys=>okO (T d) fun yd=>(match x,yd.kind with
  | .a (.s (.int _ z)),.int k=>K [] (vs1 (.int k (k.wrap z)))
  | .a (.s (.str z)),.str=>K [] (vs1 (.str z))
  | .a (.s .nilsl),.str=>(match ys.kind with
   | .slice e=>okO (T e) fun ye=>(match ye.kind with
    | .int .u8=>K [] (vs1 (.str ByteArray.empty))
    | _=>none)
   | _=>none)
  | .a (.s (.sl i k n)),.str=>(match ys.kind with
   | .slice e=>okO (T e) fun ye=>(match ye.kind with
    | .int .u8=>okO (hp i) fun r=>QAu r.cells k n fun l=>okO (Qd8 l) fun ns=>K [(i,r)] (vs1 (.str (strOfNums ns)))
    | _=>none)
   | _=>none)
  | _,_=>none)
theorem Qth {T:Tys} {hp:Hp} {s d:TypeId} {v:TV} {K:KO α} {K':KK} {x:α} (hK:∀ a b,K a b=some x->K' a b) (h:Qw7 T hp s d v K=some x):Qss T hp s d v K':=by
 unfold Qw7 at h;unfold Qss;obtain ⟨_,h1,h2⟩:=Qak h;obtain ⟨_,h3,h4⟩:=Qak h2;rw [h1,h3];split at h4
 .rename_i hk;simp only [hk];exact ⟨_,rfl,hK _ _ h4⟩
 .grind
 .rename_i hk
  simp only [hk];split at h4
  .rename_i e he
   simp only [he];obtain ⟨_,h5,h6⟩:=Qak h4;rw [h5];split at h6
   .grind
   .cases h6
  .cases h4
 .rename_i hk
  simp only [hk];split at h4
  .rename_i e he
   simp only [he];obtain ⟨_,h5,h6⟩:=Qak h4;rw [h5];split at h6
   .rename_i hu
    simp only [hu];obtain ⟨r,h7,h8⟩:=Qak h6;obtain ⟨l,h9,jW⟩:=Qib h8;obtain ⟨ns,yN,vS⟩:=Qak jW;exact ⟨r,h7,l,h9,ns,yN,hK _ _ vS⟩
   .cases h6
  .cases h4
 .cases h4
def Qpl (T:Tys) (hp:Hp) (t:TypeId) (x:TV) (lo hi:Option Int->Option Int) (K:KO α):Option α :=
 okO (T t) fun y=>(match x,y.kind with
  | .a (.s (.str s)),.str=>okO (lo (some 0)) fun l=>okO (hi (some s.size)) fun h=>okB (decide (0<=l)&&decide (l<=h)&&decide (h<=s.size)) (K [] (vs1 (.str (QFD s l.toNat h.toNat))))
  | .a (.s (.sl i k n)),.slice e=>okO (T e) fun ye=>okO (lo (some 0)) fun l=>okO (hi (some n)) fun h=>okO (hp i) fun r=>okB (Nat.beq r.es ye.size&&decide (0<=l)&&decide (l<=h)&&decide (h<=n)) (K [(i,r)] (vs1 (.sl i (k+l.toNat * ye.size) (h-l).toNat)))
  | .a (.s .nilsl),.slice e=>okO (T e) fun _=>okO (lo (some 0)) fun l=>okO (hi (some 0)) fun h=>okB (decide (l=0)&&decide (h=0)) (K [] (vs1 .nilsl))
  | _,_=>none)
theorem Qpm {T:Tys} {hp:Hp} {t:TypeId} {v:TV} {lo hi:Option Int->Option Int} {K:KO α} {K':KK} {x:α} (hK:∀ a b,K a b=some x->K' a b) (h:Qpl T hp t v lo hi K=some x):Qkn T hp t v lo hi K':=by
 unfold Qpl at h;unfold Qkn;obtain ⟨_,h1,h2⟩:=Qak h;rw [h1];split at h2
 .rename_i hk
  simp only [hk];obtain ⟨_,h3,h4⟩:=Qak h2;obtain ⟨_,h5,h6⟩:=Qak h4;obtain ⟨h6,h7⟩:=QaH h6;simp only [zba,zde] at h6;rw [h3,h5];exact ⟨⟨h6.1.1,h6.1.2,h6.2⟩,_,rfl,by rw [<- QwQ];exact hK _ _ h7⟩
 .rename_i hk
  simp only [hk];obtain ⟨_,h3,h4⟩:=Qak h2;obtain ⟨_,h5,h6⟩:=Qak h4;obtain ⟨_,h7,h8⟩:=Qak h6;obtain ⟨r,h9,jW⟩:=Qak h8;obtain ⟨jW,yN⟩:=QaH jW;simp only [zba,zde] at jW;rw [h3,h5,h7];exact ⟨r,h9,⟨zbq jW.1.1.1,jW.1.1.2,jW.1.2,jW.2⟩,_,rfl,_,rfl,hK _ _ yN⟩
 .rename_i hk
  simp only [hk];obtain ⟨_,h3,h4⟩:=Qak h2;obtain ⟨_,h5,h6⟩:=Qak h4;obtain ⟨_,h7,h8⟩:=Qak h6;obtain ⟨jW,yN⟩:=QaH h8;simp only [zba,zde] at jW;rw [h3,h5,h7];exact ⟨jW,hK _ _ yN⟩
 .cases h2
variable {α:Type}
def QzX (z:List SV) (n:Nat):List SV:=Nat.rec [] (fun _ ih=>z++ih) n
theorem QsK (z:List SV) (hz:0<z.length):∀ n:Nat,(QzX z n).length=n*z.length/\∀ (k:Nat) s,(QzX z n)[k]?=some s->z[k%z.length]?=some s
 | 0=>⟨by show ([]:List SV).length=_;simp,fun k s h=>by have h:([]:List SV)[k]?=some s:=h;simp at h⟩
 | n+1=>by
  obtain ⟨h1,_⟩:=QsK z hz n;have e:QzX z (n+1)=z++QzX z n:=rfl;rw [e];refine ⟨by rw [zla,h1,Nat.succ_mul];omega,fun k s h=>?_⟩
  by_cases hk:k<z.length
  .grind [zgl,Nat.mod_eq_of_lt,QzX]
  .grind [zgr,Nat.mod_eq_sub_mod,QzX]
abbrev Qwz:=FuncId->List AV->Hp->Nat->Option (List (Nat × Row) × Ef)
def dop {P:Program} (E:EqT P) (T:Tys) (C:Qwz) (o:Oper) (tv:Operand->TV) (hp:Hp) (n0:Nat) (K:KO α):Option α :=
 match o.op with
 | .move x=>K [] ⟨tv x,[],[]⟩
 | .assign x=>K [] ⟨tv x,[],[]⟩
 | .pick c x y=>(match tv c with
  | .a (.s (.bool b))=>(match b with|true=>K [] ⟨tv x,[],[]⟩|false=>K [] ⟨tv y,[],[]⟩)
  | _=>none)
 | .binOp op t x y _=>QFH E T op t (tv x) (tv y) fun s=>K [] (vs1 s)
 | .unOp op _ x=>dUn op (tv x) fun s=>K [] (vs1 s)
 | .alloc t=>okO (T t) fun y=>K [] ⟨.a (.s (.ptr n0 0)),[],[(n0,⟨true,1,y.zero⟩)]⟩
 | .box _ x=>(match tv x with| .a u=>okB (Qat u.cells) (K [] ⟨.a (.s (.ptr n0 0)),[],[(n0,⟨true,1,u.cells⟩)]⟩)|_=>none)
 | .load t x=>(match tv x with
  | .a (.s (.ptr i k))=>okO (T t) fun y=>(match y.kind.agg with
    | false=>okO (hp i) fun r=>okO (r.cells[k]?) fun s=>K [(i,r)] (vs1 s)
    | true=>okO (hp i) fun r=>QAu r.cells k y.size fun l=>K [(i,r)] (vv (.agg l)))
  | _=>none)
 | .store t x z=>(match tv x,tv z with
  | .a (.s (.ptr i k)),.a u=>okO (T t) fun y=>okO (hp i) fun r=>okB (Nat.beq u.cells.length y.size&&Qat u.cells&&r.own&&Nat.ble (k+u.cells.length) r.cells.length) (K [(i,r)] ⟨.unk,[(i,some ⟨r.own,r.es,QaC r.cells k u.cells⟩)],[]⟩)
  | _,_=>none)
 | .nilCheck x=>(match tv x with
  | .a (.s (.ptr i k))=>K [] (vs1 (.ptr i k))
  | .a (.s (.fn (.func f) cap))=>K [] (vs1 (.fn (.func f) cap))
  | _=>none)
 | .fieldAddr t x f=>(match tv x with
  | .a (.s (.ptr i k))=>okO (T t) fun y=>(match y.kind with
   | .struct fs=>okO (fs[f]?) fun p=>okO (T p.2) fun yf=>(match Nat.beq yf.size 0 with|false=>K [] (vs1 (.ptr i (k+p.1)))|true=>none)
   | _=>none)
  | _=>none)
 | .indexAddr t x ix=>(match tv x,tv ix with
  | .a (.s (.sl i k n)),.a (.s (.int _ z))=>okO (T t) fun y=>(match y.kind with
   | .slice e=>okO (T e) fun ye=>okB (decide (0<=z)&&decide (z<n)) (K [] (vs1 (.ptr i (k+z.toNat * ye.size))))
   | _=>none)
  | .a (.s (.ptr i k)),.a (.s (.int _ z))=>okO (T t) fun y=>(match y.kind with
   | .array n e=>okO (T e) fun ye=>okB (decide (0<=z)&&decide (z<n)) (K [] (vs1 (.ptr i (k+z.toNat * ye.size))))
   | _=>none)
  | _,_=>none)
 | .index t x ix=>(match tv x,tv ix with
  | .a (.s (.str s)),.a (.s (.int _ z))=>okO (T t) fun y=>(match y.kind with
   | .str=>okB (decide (0<=z)) (okO (s.data.toList[z.toNat]?) fun b=>K [] (vs1 (.int .u8 b.toNat)))
   | _=>none)
  | .a (.agg l),.a (.s (.int _ z))=>okO (T t) fun y=>(match y.kind with
   | .array n e=>okO (T e) fun ye=>okB (decide (0<=z)&&decide (z<n)) (okO (Qiy ye l (z.toNat * ye.size)) fun u=>K [] (vv u))
   | _=>none)
  | _,_=>none)
 | .field t x f=>(match tv x with
  | .a (.agg l)=>okO (T t) fun y=>(match y.kind with
   | .struct fs=>okO (fs[f]?) fun p=>okO (T p.2) fun yf=>okO (Qiy yf l p.1) fun u=>K [] (vv u)
   | _=>none)
  | _=>none)
 | .extract x k=>(match tv x with| .tup l=>okO (l[k]?) fun u=>K [] (vv u)|_=>none)
 | .build t parts=>okO (T t) fun y=>okO (Qd4 tv parts.toList) fun ps=>(match y.kind with
   | .struct fs=>okO (QdA T fs) fun pl=>okO (Qb0 (fun i=>pl[i]?) y.zero ps) fun l=>K [] (vv (.agg l))
   | .array _ e=>okO (T e) fun ye=>okO (Qb0 (fun i=>some (i*ye.size,ye.size)) y.zero ps) fun l=>K [] (vv (.agg l))
   | _=>none)
 | .buildSlice t n parts=>okO (T t) fun y=>okO (Qd4 tv parts.toList) fun ps=>(match y.kind with
   | .slice e=>okO (T e) fun ye=>(match Nat.ble (n*ye.size) 16777216 with
     | true=>okO (Qb0 (fun i=>some (i*ye.size,ye.size)) (List.replicate (n*ye.size) .unk) ps) fun l=>okB (Nat.beq l.length (n*ye.size)) (K [] ⟨.a (.s (.sl n0 0 n)),[],[(n0,⟨true,ye.size,l⟩)]⟩)
     | false=>none)
   | _=>none)
 | .makeSlice t x y=>(match tv x,tv y with
  | .a (.s (.int _ l)),.a (.s (.int _ c))=>okO (T t) fun yt=>(match yt.kind with
   | .slice e=>okO (T e) fun ye=>okB (decide (0<=l)&&decide (l<=c)&&decide (ye.bytes*c<=140737488355328)&&decide (c<=9223372036854775807)&&Nat.blt 0 ye.size&&Nat.beq ye.zero.length ye.size) (K [] ⟨.a (.s (.sl n0 0 l.toNat)),[],[(n0,⟨true,ye.size,QzX ye.zero l.toNat⟩)]⟩)
   | _=>none)
  | _,_=>none)
 | .slice t x lo hi none=>Qpl T hp t (tv x) (fun d=>QkL tv (d.getD 0) lo) (fun d=>QkL tv (d.getD 0) hi) K
 | .convert s d x=>Qw7 T hp s d (tv x) K
 | .makeFunc f first cs=>(match first.toList with
  | []=>okO (Qnd tv cs.toList) fun cap=>K [] (vs1 (.fn f cap))
  | _=>none)
 | .call c=>(match c.callee with
  | .value fo=>(match tv fo with
   | .a (.s (.fn (.func f) cap))=>okO (avs tv c.args.toList) fun l=>okO (C f (l++Qop cap) hp n0) fun p=>K p.1 p.2
   | _=>none)
  | .builtin .len=>(match c.args.toList,c.argTypes.toList with| [x],[t]=>QFJ T t (tv x) fun s=>K [] (vs1 s)|_,_=>none)
  | .builtin .append=>(match c.args.toList,c.argTypes.toList with| [x,y],[t,tx]=>Qk1 T hp n0 t tx (tv x) (tv y) K|_,_=>none)
  | .builtin .copy=>(match c.args.toList,c.argTypes.toList with| [x,y],[t,_]=>Qw8 T hp t (tv x) (tv y) K|_,_=>none)
  | .builtin .min=>(match c.args.toList with
   | x::l=>(match tv x with
    | .a (.s (.int k _))=>(match Qjz tv k (x::l) with|some (z::r)=>K [] (vs1 (.int k (Qot z r)))|_=>none)
    | _=>none)
   | _=>none)
  | _=>none)
 | _=>none
theorem QIA (s:ByteArray) (i:Nat):s[i]?=s.data.toList[i]?:=by
 rw [Array.getElem?_toList];show (if h:i<s.size then some s[i] else none)=_
 by_cases h:i<s.size
 .rw [dif_pos h,Array.getElem?_eq_getElem h];rfl
 .simp_all
theorem QBt {P:Program} {E:EqT P} {T:Tys} {C:Qwz} {det:Bool} (hC:∀ f l hp n0 fp e,C f l hp n0=some (fp,e)->∀ K':KK,K' fp e->Qoa P det f l hp n0 K') {o:Oper} {tv:Operand->TV} {hp:Hp} {n0:Nat} {K:KO α} {K':KK} {x:α}
  (hK:∀ a b,K a b=some x->K' a b) (h:dop E T C o tv hp n0 K=some x):vop P T det o tv hp n0 K':=by
 unfold dop at h;unfold vop;generalize o.op=op at h |-;cases op<;>(try dsimp only at h |-)<;>try (exfalso;cases h;done)
 case move=>grind
 case assign=>grind
 case pick=>grind
 case binOp=>exact Qw6 (fun s hs=>hK _ _ hs) h
 case unOp=>exact QBn (fun s hs=>hK _ _ hs) h
 case alloc =>
  obtain ⟨y,h1,h2⟩:=Qak h;rw [h1];simp only [Qqd];exact hK _ _ h2
 case box =>
  split at h
  .rename_i hv
   obtain ⟨h1,h2⟩:=QaH h;rw [hv];simp only [Qmk];exact ⟨h1,hK _ _ h2⟩
  .cases h
 case load =>
  split at h
  .rename_i hv
   obtain ⟨y,h1,h2⟩:=Qak h;rw [hv,h1];dsimp only;split at h2
   .rename_i ha
    rw [ha];obtain ⟨r,h3,h4⟩:=Qak h2;obtain ⟨s,h5,h6⟩:=Qak h4;exact ⟨r,h3,s,h5,hK _ _ h6⟩
   .rename_i ha
    rw [ha];obtain ⟨r,h3,h4⟩:=Qak h2;obtain ⟨l,h5,h6⟩:=Qib h4;exact ⟨r,h3,l,h5,hK _ _ h6⟩
  .cases h
 case store =>
  split at h
  .rename_i hv hz
   obtain ⟨y,h1,h2⟩:=Qak h;obtain ⟨r,h3,h4⟩:=Qak h2;obtain ⟨h4,h5⟩:=QaH h4;simp only [zba] at h4;rw [hv,hz,h1];simp only [Qmk];exact ⟨r,h3,⟨zbq h4.1.1.1,h4.1.1.2,h4.1.2,Nat.le_of_ble_eq_true h4.2⟩,_,rfl,hK _ _ h5⟩
  .cases h
 case nilCheck=>grind
 case fieldAddr =>
  split at h
  .rename_i hv
   obtain ⟨y,h1,h2⟩:=Qak h;rw [hv,h1];dsimp only;split at h2
   .rename_i hk
    obtain ⟨p,h3,h4⟩:=Qak h2;obtain ⟨_,h5,h6⟩:=Qak h4;simp only [hk,h3,h5];split at h6
    .grind
    .cases h6
   .cases h2
  .cases h
 case indexAddr =>
  split at h
  .rename_i hv hz
   obtain ⟨y,h1,h2⟩:=Qak h;rw [hv,hz,h1];dsimp only;split at h2
   .rename_i hk
    obtain ⟨ye,h3,h4⟩:=Qak h2;obtain ⟨h4,h5⟩:=QaH h4;simp only [zba,zde] at h4;simp only [hk,h3];exact ⟨h4,_,rfl,hK _ _ h5⟩
   .cases h2
  .rename_i hv hz
   obtain ⟨y,h1,h2⟩:=Qak h;rw [hv,hz,h1];dsimp only;split at h2
   .rename_i hk
    obtain ⟨ye,h3,h4⟩:=Qak h2;obtain ⟨h4,h5⟩:=QaH h4;simp only [zba,zde] at h4;simp only [hk,h3];exact ⟨h4,_,rfl,hK _ _ h5⟩
   .cases h2
  .cases h
 case index =>
  split at h
  .rename_i hv hz
   obtain ⟨y,h1,h2⟩:=Qak h;rw [hv,hz,h1];dsimp only;split at h2
   .rename_i hk
    obtain ⟨h3,h4⟩:=QaH h2;obtain ⟨b,h5,h6⟩:=Qak h4;exact ⟨⟨hk,of_decide_eq_true h3⟩,b,by rw [QIA];exact h5,hK _ _ h6⟩
   .cases h2
  .rename_i hv hz
   obtain ⟨y,h1,h2⟩:=Qak h;rw [hv,hz,h1];dsimp only;split at h2
   .rename_i hk
    obtain ⟨ye,h3,h4⟩:=Qak h2;obtain ⟨h4,h5⟩:=QaH h4;obtain ⟨u,h6,h7⟩:=Qak h5;simp only [zba,zde] at h4;simp only [hk,h3];exact ⟨h4,u,h6,hK _ _ h7⟩
   .cases h2
  .cases h
 case field =>
  split at h
  .rename_i hv
   obtain ⟨y,h1,h2⟩:=Qak h;rw [hv,h1];dsimp only;split at h2
   .rename_i hk
    obtain ⟨p,h3,h4⟩:=Qak h2;obtain ⟨_,h5,h6⟩:=Qak h4;obtain ⟨u,h7,h8⟩:=Qak h6;simp only [hk,h3,h5];exact ⟨u,h7,hK _ _ h8⟩
   .cases h2
  .cases h
 case extract =>
  split at h
  .rename_i hv
   obtain ⟨u,h1,h2⟩:=Qak h;rw [hv];simp only [h1];exact hK _ _ h2
  .cases h
 case build =>
  obtain ⟨y,h1,h2⟩:=Qak h;obtain ⟨_,h3,h4⟩:=Qak h2;rw [h1,h3];dsimp only;split at h4
  .rename_i hk
   obtain ⟨_,h5,h6⟩:=Qak h4;obtain ⟨l,h7,h8⟩:=Qak h6;simp only [hk,h5];exact ⟨l,h7,hK _ _ h8⟩
  .rename_i hk
   obtain ⟨_,h5,h6⟩:=Qak h4;obtain ⟨l,h7,h8⟩:=Qak h6;simp only [hk,h5];exact ⟨l,h7,hK _ _ h8⟩
  .cases h4
 case buildSlice =>
  obtain ⟨y,h1,h2⟩:=Qak h;obtain ⟨_,h3,h4⟩:=Qak h2;rw [h1,h3];dsimp only;split at h4
  .rename_i hk
   obtain ⟨ye,h5,h6⟩:=Qak h4;simp only [hk,h5];split at h6
   .rename_i hb
    obtain ⟨l,h7,h8⟩:=Qak h6;obtain ⟨h8,h9⟩:=QaH h8;simp only [hb];exact ⟨l,h7,zbq h8,hK _ _ h9⟩
   .cases h6
  .cases h4
 case makeSlice =>
  split at h
  .rename_i hv hz
   obtain ⟨_,h1,h2⟩:=Qak h;rw [hv,hz,h1];dsimp only;split at h2
   .rename_i hk
    obtain ⟨ye,h3,h4⟩:=Qak h2;obtain ⟨h4,h5⟩:=QaH h4;simp only [zba,zde] at h4;simp only [hk,h3];obtain ⟨⟨⟨⟨⟨g1,g2⟩,g3⟩,g4⟩,g5⟩,g6⟩:=h4;have g6:=zbq g6;have g5:0<ye.size:=by simpa using g5
    refine ⟨⟨g1,g2,g3,g4⟩,_,rfl,_,?_,hK _ _ h5⟩;obtain ⟨q1,q2⟩:=QsK ye.zero (by omega) (Int.toNat _);rw [g6] at q1 q2;exact ⟨q1,q2⟩
   .cases h2
  .cases h
 case slice t y lo hi mx =>
  cases mx with
  | some m=>cases h
  | none=>exact Qpm hK h
 case convert=>exact Qth hK h
 case makeFunc =>
  split at h
  .rename_i hf
   obtain ⟨_,h1,h2⟩:=Qak h;simp only [hf,h1];exact hK _ _ h2
  .cases h
 case call c =>
  split at h
  .rename_i wZ
   rw [wZ];dsimp only;split at h
   .rename_i GU
    obtain ⟨l,h1,h2⟩:=Qak h;obtain ⟨p,h3,h4⟩:=Qak h2;obtain ⟨fp,e⟩:=p;simp only [GU,h1];exact hC _ _ _ _ _ _ h3 K' (hK _ _ h4)
   .cases h
  .rename_i wZ
   rw [wZ];dsimp only;split at h
   .rename_i h1 h2
    simp only [h1,h2];exact Qxa (fun s hs=>hK _ _ hs) h
   .cases h
  .rename_i wZ
   rw [wZ];dsimp only;split at h
   .rename_i h1 h2
    simp only [h1,h2];exact Qns hK h
   .cases h
  .rename_i wZ
   rw [wZ];dsimp only;split at h
   .rename_i h1 h2
    simp only [h1,h2];exact Qti hK h
   .cases h
  .rename_i wZ
   rw [wZ];dsimp only;split at h
   .rename_i h1
    simp only [h1];split at h
    .rename_i h2
     simp only [h2];split at h
     .rename_i h3
      simp only [h3];exact ⟨_,rfl,hK _ _ h⟩
     .cases h
    .cases h
   .cases h
  .cases h
variable {α:Type}
noncomputable def QfN (n:Nat) (K:Nat->Option α):Option α:=Nat.rec (K 0) (fun m _=>K (Nat.succ m)) n
theorem QbC (n:Nat) (K:Nat->Option α):QfN n K=K n:=by cases n<;>rfl
noncomputable def QHF (z:Int) (K:Int->Option α):Option α:=Int.rec (fun n=>QfN n fun n=>K (Int.ofNat n)) (fun n=>QfN n fun n=>K (Int.negSucc n)) z
theorem Qxz (z:Int) (K:Int->Option α):QHF z K=K z:=by
 cases z with
 | ofNat n=>exact QbC n fun n=>K (Int.ofNat n)
 | negSucc n=>exact QbC n fun n=>K (Int.negSucc n)
noncomputable def fU (l:List UInt8):(List UInt8->Option α)->Option α:=List.rec (fun K=>K []) (fun b _ ih K=>QfN b.toNat fun n=>ih fun l=>K (UInt8.ofNat n::l)) l
theorem QBH:∀ (l:List UInt8) (K:List UInt8->Option α),fU l K=K l
 | [],K=>rfl
 | b::l,K=>by
  show QfN b.toNat (fun n=>fU l fun l=>K (UInt8.ofNat n::l))=_;rw [QbC,QBH l,UInt8.ofNat_toNat]
noncomputable def fSV (fc:Bool) (s:SV) (K:SV->Option α):Option α:=match s with
 | .unk=>K .unk
 | .bool b=>(match fc with
  | true=>(match b with|true=>K (.bool true)|false=>K (.bool false))
  | false=>K (.bool b))
 | .int k n=>(match fc with
  | true=>QHF n fun n=>K (.int k n)
  | false=>K (.int k n))
 | .str s=>(match fc with
  | true=>fU s.data.toList fun l=>K (.str ⟨⟨l⟩⟩)
  | false=>K (.str s))
 | .nil=>K .nil
 | .ptr i o=>QfN i fun i=>QfN o fun o=>K (.ptr i o)
 | .nilsl=>K .nilsl
 | .sl i o n=>QfN i fun i=>QfN o fun o=>QfN n fun n=>K (.sl i o n)
 | .fn f c=>K (.fn f c)
 | .fz es n c=>K (.fz es n c)
theorem QvN (fc:Bool) (s:SV) (K:SV->Option α):fSV fc s K=K s:=by
 cases s<;>cases fc<;>simp only [fSV,QbC,Qxz,QBH]
 case bool.true b=>grind
noncomputable def Qml (fc:Bool) (l:List SV):(List SV->Option α)->Option α:=List.rec (fun K=>K []) (fun s _ ih K=>fSV fc s fun s=>ih fun l=>K (s::l)) l
theorem QgB (fc:Bool):∀ (l:List SV) (K:List SV->Option α),Qml fc l K=K l
 | [],K=>rfl
 | s::l,K=>by
  show fSV fc s (fun s=>Qml fc l fun l=>K (s::l))=_;rw [QvN,QgB fc l]
noncomputable def fAV (fc:Bool) (v:AV) (K:AV->Option α):Option α:=match v with
 | .s s=>fSV fc s fun s=>K (.s s)
 | .agg l=>Qml fc l fun l=>K (.agg l)
theorem QvK (fc:Bool) (v:AV) (K:AV->Option α):fAV fc v K=K v:=by
 cases v
 .grind [QvN,fAV]
 .grind [QgB,fAV]
noncomputable def QFO (fc:Bool) (l:List AV):(List AV->Option α)->Option α:=List.rec (fun K=>K []) (fun s _ ih K=>fAV fc s fun s=>ih fun l=>K (s::l)) l
theorem Qqb (fc:Bool):∀ (l:List AV) (K:List AV->Option α),QFO fc l K=K l
 | [],K=>rfl
 | s::l,K=>by
  show fAV fc s (fun s=>QFO fc l fun l=>K (s::l))=_;rw [QvK,Qqb fc l]
noncomputable def fTV (fc:Bool) (v:TV) (K:TV->Option α):Option α:=match v with
 | .unk=>K .unk
 | .a x=>fAV fc x fun x=>K (.a x)
 | .tup l=>QFO fc l fun l=>K (.tup l)
theorem QBF (fc:Bool) (v:TV) (K:TV->Option α):fTV fc v K=K v:=by
 cases v
 .rfl
 .grind [QvK,fTV]
 .grind [Qqb,fTV]
noncomputable def QBE (fc:Bool) (r:Row) (K:Row->Option α):Option α:=match r with
 | ⟨o,e,c⟩=>Qml fc c fun c=>QfN e fun e=>(match o with|true=>K ⟨true,e,c⟩|false=>K ⟨false,e,c⟩)
theorem Qqf (fc:Bool) (r:Row) (K:Row->Option α):QBE fc r K=K r:=by
 obtain ⟨o,_,_⟩:=r;simp only [QBE,QgB,QbC];cases o<;>rfl
noncomputable def QtH (fc:Bool) (r:Option Row) (K:Option Row->Option α):Option α:=match r with
 | some r=>QBE fc r fun r=>K (some r)
 | none=>K none
theorem QtI (fc:Bool) (r:Option Row) (K:Option Row->Option α):QtH fc r K=K r:=by
 cases r
 .rfl
 .grind [Qqf,QtH]
noncomputable def lk {β:Type} (l:List (Nat × β)) (n:Nat):Option β:=List.rec none (fun p _ ih=>match Nat.beq n p.1 with
 | true=>some p.2
 | false=>ih) l
theorem Qnx {β:Type} (n:Nat):∀ l:List (Nat × β),lk l n=QaX l n
 | []=>rfl
 | p::l=>by
  show (match Nat.beq n p.1 with|true=>some p.2|false=>lk l n)=_;rw [Qnx n l];rfl
noncomputable def tmR (tm:Tm) (t:Nat):TV:=match lk tm t with
 | some v=>v
 | none=> .unk
theorem QhU (tm:Tm):tmR tm=tmG tm:=by funext t;unfold tmR tmG;rw [Qnx];rfl
noncomputable def Quk {β:Type} (l:List (Nat × β)) (t:Nat) (v:β):(List (Nat × β)->Option α)->Option α :=
 List.rec (fun K=>K [(t,v)]) (fun p l ih K=>match Nat.beq p.1 t with
  | true=>K ((t,v)::l)
  | false=>ih fun l=>K (p::l)) l
theorem QeT {β:Type} {t:Nat} {v:β} {x:α}:∀ {l:List (Nat × β)} {K:List (Nat × β)->Option α},Quk l t v K=some x ->
  ∃ l',K l'=some x/\(∀ n,QaX l' n=if n=t then some v else QaX l n)/\(∀ p∈l',p=(t,v)\/p∈l)
 | [],K,h=>⟨[(t,v)],h,fun n=>by rw [Qa0],fun p hp=>by simp at hp;exact .inl hp⟩
 | p::l,K,h=>by
  obtain ⟨k,y⟩:=p;change (match Nat.beq k t with|true=>K ((t,v)::l)|false=>Quk l t v fun l=>K ((k,y)::l))=some x at h;split at h
  .grind [zbq,Qa0,Quk,QaX]
  .rename_i hb
   have fQ:=Nat.ne_of_beq_eq_false hb;obtain ⟨l',h1,_,_⟩:=QeT h;refine ⟨_,h1,fun n=>?_,fun q hq=>?_⟩
   .grind [Qa0,Quk,QaX]
   .grind
noncomputable def Qyv (fc:Bool) (tm:Tm) (d:Option Nat) (v:TV) (K:Tm->Option α):Option α:=match d with
 | some d=>fTV fc v fun v=>Quk tm d v K
 | none=>K tm
theorem QgW {fc:Bool} {tm tm':Tm} {d:Option Nat} {v:TV} {K:Tm->Option α} {x:α} (h:Qyv fc tm d v K=some x) (hs:tmG tm'=tmG tm):∃ tm1,K tm1=some x/\tmG (QCz tm' d v)=tmG tm1:=by
 unfold Qyv at h
 cases d with
 | none=>exact ⟨tm,h,hs⟩
 | some d =>
  simp only [QBF] at h;obtain ⟨l,h1,h2,_⟩:=QeT h;refine ⟨l,h1,?_⟩
  funext t
  show tmG ((d,v)::tm') t=_;rw [Qcf,hs];unfold tmG;rw [h2];split
  .rfl
  .rfl
structure En where
 (d:Bool) (r:Option Row)
abbrev HE:=List (Nat × En)
noncomputable def hpE (h:HE):Hp:=fun n=>match lk h n with
 | some e=>e.r
 | none=>none
noncomputable def upE (fc:Bool) (u:List (Nat × Option Row)):HE->(HE->Option α)->Option α:=List.rec (fun h K=>K h) (fun p _ ih h K=>ih h fun h=>QtH fc p.2 fun r=>QfN p.1 fun n=>Quk h n ⟨true,r⟩ K) u
noncomputable def nwE (fc:Bool) (u:List (Nat × Row)):HE->(HE->Option α)->Option α:=List.rec (fun h K=>K h) (fun p _ ih h K=>ih h fun h=>QBE fc p.2 fun r=>QfN p.1 fun n=>Quk h n ⟨true,some r⟩ K) u
noncomputable def QEI (fc:Bool) (e:Ef) (h:HE) (K:HE->Option α):Option α:=upE fc e.up h fun h=>nwE fc e.nw h K
noncomputable def Cln (H:List Row) (h:HE):Prop:=∀ p∈h,p.2.d=false->p.2.r=H[p.1]?
theorem Qqy {l l':HE} {t:Nat} {e:En} (h:∀ n,QaX l' n=if n=t then some e else QaX l n):hpE l'=Hp.set (hpE l) t e.r:=by
 funext n
 show (match lk l' n with|some e=>e.r|none=>none)=if n=t then e.r else (match lk l n with|some e=>e.r|none=>none)
 rw [Qnx,Qnx,h]
 by_cases hn:n=t
 .grind
 .grind
theorem Qo5 {H:List Row} {l l':HE} {t:Nat} {r:Option Row} (h:∀ p∈l',p=(t,(⟨true,r⟩:En))\/p∈l) (hc:Cln H l):Cln H l':=fun p hp hd=>by
 rcases h p hp with rfl|h
 .cases hd
 .exact hc p h hd
theorem Qm4 {fc:Bool} {H:List Row} {x:α}:∀ {u:List (Nat × Option Row)} {h:HE} {K:HE->Option α},upE fc u h K=some x->Cln H h->∀ h':Hl,hpG h'=hpE h->∃ h1,K h1=some x/\hpG (upL u h')=hpE h1/\Cln H h1
 | [],h,K,hq,hc,h',he=>⟨h,hq,he,hc⟩
 | p::u,h,K,hq,hc,h',he=>by
  change upE fc u h (fun h=>QtH fc p.2 fun r=>QfN p.1 fun n=>Quk h n ⟨true,r⟩ K)=some x at hq;obtain ⟨h1,g1,g2,g3⟩:=Qm4 hq hc h' he;rw [QtI,QbC] at g1;obtain ⟨h2,g4,g5,g6⟩:=QeT g1;refine ⟨h2,g4,?_,Qo5 g6 g3⟩;obtain ⟨n,r⟩:=p;show hpG ((n,r)::upL u h')=_;rw [Qbv,g2,Qqy g5]
theorem QmC {fc:Bool} {H:List Row} {x:α}:∀ {u:List (Nat × Row)} {h:HE} {K:HE->Option α},nwE fc u h K=some x->Cln H h->∀ h':Hl,hpG h'=hpE h->∃ h1,K h1=some x/\hpG (nwL u h')=hpE h1/\Cln H h1
 | [],h,K,hq,hc,h',he=>⟨h,hq,he,hc⟩
 | p::u,h,K,hq,hc,h',he=>by
  change nwE fc u h (fun h=>QBE fc p.2 fun r=>QfN p.1 fun n=>Quk h n ⟨true,some r⟩ K)=some x at hq;obtain ⟨h1,g1,g2,g3⟩:=QmC hq hc h' he;rw [Qqf,QbC] at g1;obtain ⟨h2,g4,g5,g6⟩:=QeT g1;refine ⟨h2,g4,?_,Qo5 g6 g3⟩;obtain ⟨n,r⟩:=p;show hpG ((n,some r)::nwL u h')=_;rw [Qbv,g2,Qqy g5]
theorem QoH {fc:Bool} {H:List Row} {x:α} {e:Ef} {h:HE} {K:HE->Option α} (hq:QEI fc e h K=some x) (hc:Cln H h) {h':Hl} (he:hpG h'=hpE h):∃ h1,K h1=some x/\hpG (QEJ e h')=hpE h1/\Cln H h1:=by
 obtain ⟨h1,g1,g2,g3⟩:=Qm4 hq hc h' he;exact QmC g1 g3 _ g2
noncomputable def Qv8 (det:Bool) (d:Did) (l:List Did) (K:List Did->Option α):Option α:=match det with
 | true=>K (d::l)
 | false=>K l
section
variable {P:Program} (E:EqT P) (T:Tys) (fc:Bool) (C:Qwz)
noncomputable def Qxg (det:Bool) (all:List Oper) (base:Nat) (o:Oper) (ih:Nat->Tm->HE->List Did->(Tm->HE->List Did->Option α)->Option α) (i:Nat) (tm:Tm) (h:HE) (rec:List Did) (K:Tm->HE->List Did->Option α):Option α :=
 match o.guard with
  | none=>QfN (base+Qaq*i) fun n0=>dop E T C o (evF (tmR tm)) (hpE h) n0 fun fp e=>Qyv fc tm o.dst e.v fun tm=>QEI fc e h fun h=>Qv8 det (.did fp e) rec fun rec=>QfN (i+1) fun i=>ih i tm h rec K
  | some (j,want)=>match Qee all j with
   | some t=>(match tmR tm t with
    | .a (.s (.bool b))=>(match Bool.xor b want with
     | false=>QfN (base+Qaq*i) fun n0=>dop E T C o (evF (tmR tm)) (hpE h) n0 fun fp e=>Qyv fc tm o.dst e.v fun tm=>QEI fc e h fun h=>Qv8 det (.did fp e) rec fun rec=>QfN (i+1) fun i=>ih i tm h rec K
     | true=>Qyv fc tm o.dst (.tup []) fun tm=>Qv8 det .skip rec fun rec=>QfN (i+1) fun i=>ih i tm h rec K)
    | .tup _=>Qyv fc tm o.dst (.tup []) fun tm=>Qv8 det .skip rec fun rec=>QfN (i+1) fun i=>ih i tm h rec K
    | _=>none)
   | none=>none
noncomputable def QBu (det:Bool) (all:List Oper) (base:Nat) (i:Nat) (l:List Oper):Tm->HE->List Did->(Tm->HE->List Did->Option α)->Option α :=
 List.rec (motive:=fun _=>Nat->Tm->HE->List Did->(Tm->HE->List Did->Option α)->Option α) (fun _ tm h rec K=>K tm h rec) (fun o _ ih=>Qxg E T fc C det all base o ih) l i
variable {E T fc C}
theorem Qdv {H:List Row} {det:Bool} (hC:∀ f l hp n0 fp e,C f l hp n0=some (fp,e)->∀ K':KK,K' fp e->Qoa P det f l hp n0 K') {all:List Oper} {base:Nat} {x:α} {K:Tm->HE->List Did->Option α} {K':Tm->Hl->List Did->Prop}
  (hK:∀ tm h rec tm' h',K tm h rec=some x->tmG tm'=tmG tm->hpG h'=hpE h->Cln H h->K' tm' h' rec):∀ (l:List Oper) (i:Nat) (tm:Tm) (h:HE) (rec:List Did) (tm':Tm) (h':Hl),
  QBu E T fc C det all base i l tm h rec K=some x->tmG tm'=tmG tm->hpG h'=hpE h->Cln H h->Qsy P T det all base i l tm' h' rec K'
 | [],i,tm,h,rec,tm',h',hq,h1,h2,h3=>hK _ _ _ _ _ hq h1 h2 h3
 | o::l,i,tm,h,rec,tm',h',hq,h1,h2,h3=>by
  change Qxg E T fc C det all base o (fun i=>QBu E T fc C det all base i l) i tm h rec K=some x at hq;rw [Qhc];unfold Qxg at hq;unfold Qsz
  have step:∀ tm1:Tm,tmG tm1=tmG tm->(QfN (base+Qaq*i) fun n0=>dop E T C o (evF (tmR tm)) (hpE h) n0 fun fp e=>Qyv fc tm o.dst e.v fun tm=>QEI fc e h fun h=>Qv8 det (.did fp e) rec fun rec=>QfN (i+1) fun i=>QBu E T fc C det all base i l tm h rec K)=some x ->
    vop P T det o (evF (tmG tm1)) (hpG h') (base+Qaq*i) (fun fp e=>Quj tm1 o.dst e.v fun tm=>QwH e h' fun h=>QkA det (.did fp e) rec fun rec=>fN (i+1) fun i=>Qsy P T det all base i l tm h rec K'):=by
   intro tm1 GJ hq;rw [QbC,QhU] at hq;rw [GJ,h2];refine QBt hC (fun fp e hq=>?_) hq;obtain ⟨_,g1,g2⟩:=QgW hq GJ;obtain ⟨_,g3,g4,g5⟩:=QoH g1 h3 h2;simp only [Qcd,Qh3,Qcq];unfold Qv8 at g3;unfold QkA
   cases det with
   | true =>
    simp only [QbC,Qcq] at g3 |-;exact Qdv hC hK l _ _ _ _ _ _ g3 g2 g4 g5
   | false =>
    simp only [QbC,Qcq] at g3 |-;exact Qdv hC hK l _ _ _ _ _ _ g3 g2 g4 g5
  cases hg:o.guard with
  | none =>
   rw [hg] at hq;exact step tm' h1 hq
  | some g =>
   obtain ⟨j,want⟩:=g;rw [hg] at hq;simp only [] at hq |-
   cases hd:Qee all j with
   | none=>rw [hd] at hq;cases hq
   | some t =>
    rw [hd] at hq;simp only [] at hq |-;rw [QhU] at hq;rw [h1];split at hq
    .rename_i b hb
     rw [hb];simp only [];rw [Qqc];refine ⟨fun e=>?_,fun e=>?_⟩
     .subst e
      rw [show Bool.xor b b=false by cases b<;>rfl] at hq;exact step _ ((QdY _ _ _ (by rw [h1,hb])).trans h1) (by rw [QhU];exact hq)
     .rw [e,show Bool.xor (!want) want=true by cases want<;>rfl] at hq
      obtain ⟨_,g1,g2⟩:=QgW (tm':=(t,.a (.s (.bool !want)))::tm') hq ((QdY _ _ _ (by rw [h1,hb,e])).trans h1);simp only [Qcd];unfold Qv8 at g1;unfold QkA
      cases det with
      | true =>
       simp only [QbC,Qcq] at g1 |-;exact Qdv hC hK l _ _ _ _ _ _ g1 g2 h2 h3
      | false =>
       simp only [QbC,Qcq] at g1 |-;exact Qdv hC hK l _ _ _ _ _ _ g1 g2 h2 h3
    .rename_i q hb
     rw [hb];simp only [];obtain ⟨_,g1,g2⟩:=QgW (tm':=tm') hq h1;simp only [Qcd];unfold Qv8 at g1;unfold QkA
     cases det with
     | true =>
      simp only [QbC,Qcq] at g1 |-;exact Qdv hC hK l _ _ _ _ _ _ g1 g2 h2 h3
     | false =>
      simp only [QbC,Qcq] at g1 |-;exact Qdv hC hK l _ _ _ _ _ _ g1 g2 h2 h3
    .cases hq
variable (E T fc C)
noncomputable def dn (n:Nat):List Nat:=Nat.rec [0] (fun m ih=>(m+1)::ih) n
theorem QFM (n:Nat):hdN (dn n)=n:=by cases n<;>rfl
theorem QvC:∀ (n k:Nat),n<k->Qc4 k (dn n)=false
 | 0,k,h=>by
  show (match Nat.beq k 0 with|true=>true|false=>false)=false
  cases hb:Nat.beq k 0 with
  | true=>simp_all
  | false=>rfl
 | n+1,k,h=>by
  show (match Nat.beq k (n+1) with|true=>true|false=>Qc4 k (dn n))=false
  cases hb:Nat.beq k (n+1) with
  | true=>simp_all
  | false=>exact QvC n k (by omega)
abbrev DK (α:Type):=Exit->Tm->HE->Nat->Option α
abbrev DC (α:Type):=Tm->HE->Nat->DK α->Option α
noncomputable def Qk4 (N:Nat) (ops:Array Oper) (draw:Bool):DC α:=fun tm h n K =>
 match QvE N ops.toList&&Nat.ble ops.toList.length 1024 with
 | false=>none
 | true=>match draw with
  | false=>QBu E T fc C false ops.toList (Qev*(n+1)) 0 ops.toList tm h [] fun tm h _=>QfN (n+1) fun n=>K .normal tm h n
  | true=>QBu E T fc C true ops.toList (Qev*(n+1)) 0 ops.toList tm h [] fun tm h rec=>okB (Qpq ops.toList rec.reverse) (QfN (n+1) fun n=>K .normal tm h n)
noncomputable def QHE (x y:DC α):DC α:=fun tm h n K=>x tm h n fun e tm h n=>match e with
 | .normal=>y tm h n K
 | e=>K e tm h n
noncomputable def Qxe (c:Operand) (x y:DC α):DC α:=fun tm h n K=>match evF (tmR tm) c with
 | .a (.s (.bool b))=>(match b with
  | true=>x tm h n K
  | false=>y tm h n K)
 | _=>none
noncomputable def QvB (id:Nat) (x:DC α):DC α:=fun tm h n K=>x tm h n fun e tm h n=>match e with
 | .exit id'=>(match Nat.beq id' id with
  | true=>K .normal tm h n
  | false=>K (.exit id') tm h n)
 | e=>K e tm h n
noncomputable def QvD (x:DC α):DC α:=fun tm h n K=>x tm h n fun e tm h n=>match e with
 | .goto _=>none
 | e=>K e tm h n
noncomputable def Qxf (fuel:Nat) (x:DC α):DC α:=Nat.rec (motive:=fun _=>DC α) (fun _ _ _ _=>none) (fun _ ih tm h n K=>x tm h n fun e tm h n=>match e with
 | .normal=>ih tm h n K
 | e=>K e tm h n) fuel
noncomputable def Qhh (fuel N:Nat) (c:Code):DC α :=
 Code.rec (motive:=fun _=>DC α)
  (fun tm h n K=>K .normal tm h n)
  (fun _ ops draw=>Qk4 E T fc C N ops draw)
  (fun _ _ x y=>QHE x y)
  (fun c _ _ x y=>Qxe c x y)
  (fun id _ x=>QvB id x)
  (fun _ x=>Qxf fuel x)
  (fun _ _ _ _ _ _ _ _ _ _=>none)
  (fun id tm h n K=>K (.exit id) tm h n)
  (fun _ x=>QvD x)
  (fun _ tm h n K=>K .normal tm h n)
  (fun _ _ _ _ _=>none)
  (fun tm h n K=>K .ret tm h n)
  (fun _ _ _ _ _=>none)
  c
variable {E T fc C}
structure Sim (H:List Row) (tm:Tm) (h:HE) (n:Nat) (σ:St):Prop where
 tm:tmG σ.tm=tmG tm
 hp:hpG σ.h=hpE h
 ids:σ.ids=dn n
 cln:Cln H h
noncomputable def QIu (H:List Row) (d:DC α) (v:VC):Prop:=∀ (tm:Tm) (h:HE) (n:Nat) (K:DK α) (x:α) (σ:St) (Q:Exit->St->Prop),d tm h n K=some x->Sim H tm h n σ ->
 (∀ e tm h n σ,K e tm h n=some x->Sim H tm h n σ->Q e σ)->v σ Q
theorem Qtk {H:List Row} (hC:∀ det f l hp n0 fp e,C f l hp n0=some (fp,e)->∀ K':KK,K' fp e->Qoa P det f l hp n0 K') {fuel N k:Nat}:∀ c:Code,QIu (α:=α) H (Qhh E T fc C fuel N c) (vc P T N k c):=by
 intro c
 induction c with
 | skip=>intro tm h n K x σ Q hq hs hK;exact hK _ _ _ _ _ hq hs
 | region id ops draw =>
  intro tm h n K x σ Q hq hs hK;change Qk4 E T fc C N ops draw tm h n K=some x at hq;show fN (hdN σ.ids) fun id=>QdH P T N id ops.toList draw σ fun σ=>Q .normal σ
  rw [Qcq,hs.ids,QFM];unfold Qk4 at hq;unfold QdH;obtain ⟨_,_,ids⟩:=σ;obtain ⟨s1,s2,s3,s4⟩:=hs;simp only [] at s1 s2 s3 |-;subst s3;rw [QvC n (n+1) (Nat.lt_succ_self n)];simp only [];split at hq
  .cases hq
  .rename_i hb
   rw [hb];simp only []
   cases draw with
   | false =>
    refine Qdv (hC false) (fun tm1 h1 rec1 tm1' VP hk g1 g2 g3=>?_) _ _ _ _ _ _ _ hq s1 s2 s4;rw [QbC] at hk;exact hK _ _ _ _ _ hk ⟨g1,g2,rfl,g3⟩
   | true =>
    refine Qdv (hC true) (fun tm1 h1 rec1 tm1' VP hk g1 g2 g3=>?_) _ _ _ _ _ _ _ hq s1 s2 s4;obtain ⟨yR,hk⟩:=QaH hk;rw [QbC] at hk;exact ⟨Qmg yR,hK _ _ _ _ _ hk ⟨g1,g2,rfl,g3⟩⟩
 | seq x y ihx ihy =>
  intro tm h n K z σ Q hq hs hK;change QHE (Qhh E T fc C fuel N x) (Qhh E T fc C fuel N y) tm h n K=some z at hq;refine ihx tm h n _ z σ _ hq hs fun e tm h n σ hk hs=>?_
  cases e with
  | normal=>exact ihy tm h n K z σ Q hk hs hK
  | exit i=>grind
  | goto i=>grind
  | ret=>grind
  | panic c=>grind
  | outgrown=>grind
 | cond c x y ihx ihy =>
  intro tm h n K z σ Q hq hs hK;change Qxe c (Qhh E T fc C fuel N x) (Qhh E T fc C fuel N y) tm h n K=some z at hq;show Qkp c (vc P T N k x) (vc P T N k y) σ Q;unfold Qxe at hq;unfold Qkp;rw [hs.tm];rw [QhU] at hq;split at hq
  .rename_i b hb
   rw [hb];simp only [];refine ⟨fun e=>?_,fun e=>?_⟩
   .subst e;exact ihx tm h n K z σ Q hq hs hK
   .subst e;exact ihy tm h n K z σ Q hq hs hK
  .cases hq
 | block id x ih =>
  intro tm h n K z σ Q hq hs hK;change QvB id (Qhh E T fc C fuel N x) tm h n K=some z at hq;refine ih tm h n _ z σ _ hq hs fun e tm h n σ hk hs=>?_
  cases e with
  | exit i=>grind
  | normal=>grind
  | goto i=>grind
  | ret=>grind
  | panic c=>grind
  | outgrown=>grind
 | loop x ih =>
  intro tm h n K z σ Q hq hs hK;change Qxf fuel (Qhh E T fc C fuel N x) tm h n K=some z at hq
  have key:∀ (m:Nat) (tm:Tm) (h:HE) (n:Nat) (σ:St),Qxf m (Qhh E T fc C fuel N x) tm h n K=some z->Sim H tm h n σ->lpU (vc P T N k x) Q m σ:=by
   intro m
   induction m with
   | zero=>intro tm h n σ hq hs;cases hq
   | succ m ihm =>
    intro tm h n σ hq hs;refine ih tm h n _ z σ _ hq hs fun e tm h n σ hk hs=>?_
    cases e with
    | normal=>exact ihm tm h n σ hk hs
    | exit i=>grind
    | goto i=>grind
    | ret=>grind
    | panic c=>grind
    | outgrown=>grind
  exact Lp.unroll fuel (key fuel tm h n σ hq hs)
 | exit id=>intro tm h n K x σ Q hq hs hK;exact hK _ _ _ _ _ hq hs
 | ret=>intro tm h n K x σ Q hq hs hK;exact hK _ _ _ _ _ hq hs
 | scope x ih =>
  intro tm h n K z σ Q hq hs hK;change QvD (Qhh E T fc C fuel N x) tm h n K=some z at hq;refine ih tm h n _ z σ _ hq hs fun e tm h n σ hk hs=>?_
  cases e with
  | goto i=>cases hk
  | exit i=>grind
  | normal=>grind
  | ret=>grind
  | panic c=>grind
  | outgrown=>grind
 | label l=>intro tm h n K x σ Q hq hs hK;exact hK _ _ _ _ _ hq hs
 | goto l=>intro tm h n K x σ Q hq hs hK;cases hq
 | rangeFunc f p x y _ _=>intro tm h n K x σ Q hq hs hK;cases hq
 | refuse s=>intro tm h n K x σ Q hq hs hK;cases hq
end
noncomputable def nmS:SV->List Nat
 | .ptr i _=> [i]
 | .sl i _ _=> [i]
 | .fn _ cap=>cap.map (·.1)
 | _=> []
noncomputable def nmC (l:List SV):List Nat:=List.rec [] (fun s _ ih=>nmS s++ih) l
noncomputable def nmA:AV->List Nat
 | .s x=>nmS x
 | .agg l=>nmC l
noncomputable def QHO (l:List AV):List Nat:=List.rec [] (fun s _ ih=>nmA s++ih) l
noncomputable def QvW (fuel:Nat) (hp:Hp):List Nat->List Nat->Option (List Nat) :=
 Nat.rec (fun _ _=>none) (fun _ ih q acc=>match q with
  | []=>some acc
  | n::q=>match Qc4 n acc with
   | true=>ih q acc
   | false=>match hp n with
    | none=>ih q acc
    | some r=>ih (nmC r.cells++q) (acc++ [n])) fuel
noncomputable def Qro (L:List Nat) (n:Nat):Nat->Option Nat:=List.rec (fun _=>none) (fun m _ ih i=>match Nat.beq n m with
 | true=>some i
 | false=>ih (i+1)) L
theorem QiB {n j:Nat}:∀ {L:List Nat} {i:Nat},Qro L n i=some j->∃ d,j=i+d/\L[d]?=some n
 | [],i,h=>by cases h
 | m::L,i,h=>by
  change (match Nat.beq n m with|true=>some i|false=>Qro L n (i+1))=some j at h;split at h
  .simp_all
  .obtain ⟨d,_,h2⟩:=QiB h
   exact ⟨d+1,by omega,by simpa using h2⟩
noncomputable def QtX (L:List Nat):List (Nat × Nat)->Option (List (Nat × Nat))
 | []=>some []
 | p::l=>match Qro L p.1 0 with
  | some i=>(match QtX L l with
   | some r=>some ((i,p.2)::r)
   | none=>none)
  | none=>none
noncomputable def inS (L:List Nat) (s:SV):Option SV:=match s with
 | .ptr n o=>(match Qro L n 0 with|some i=>some (.ptr i o)|none=>none)
 | .sl n o k=>(match Qro L n 0 with|some i=>some (.sl i o k)|none=>none)
 | .fn f cap=>(match QtX L cap with|some c=>some (.fn f c)|none=>none)
 | s=>some s
noncomputable def QE2 (L:List Nat) (s:SV):SV:=match inS L s with
 | some t=>t
 | none=> .unk
noncomputable def QxV (L:List Nat) (l:List SV):Option (List SV):=List.rec (some []) (fun s _ ih=>match inS L s with
 | some t=>(match ih with
  | some r=>some (t::r)
  | none=>none)
 | none=>none) l
noncomputable def Qyp (L:List Nat) (l:List SV):List SV:=List.rec [] (fun s _ ih=>QE2 L s::ih) l
noncomputable def inA (L:List Nat):AV->Option AV
 | .s x=>(match inS L x with|some t=>some (.s t)|none=>none)
 | .agg l=>(match QxV L l with|some t=>some (.agg t)|none=>none)
noncomputable def QHP (L:List Nat):AV->AV
 | .s x=> .s (QE2 L x)
 | .agg l=> .agg (Qyp L l)
noncomputable def QF2 (L:List Nat) (l:List AV):Option (List AV):=List.rec (some []) (fun s _ ih=>match inA L s with
 | some t=>(match ih with
  | some r=>some (t::r)
  | none=>none)
 | none=>none) l
noncomputable def Qyo (L:List Nat) (l:List AV):List AV:=List.rec [] (fun s _ ih=>QHP L s::ih) l
noncomputable def idx:Nat->List Nat->Rn
 | _,[]=> []
 | i,n::L=>(i,some n)::idx (i+1) L
theorem Qf9:∀ (L:List Nat) (i j:Nat),QaX (idx i L) j=if i<=j then (L[j-i]?).map some else none
 | [],i,j=>by show none=_;split<;>simp
 | n::L,i,j=>by
  show QaX ((i,some n)::idx (i+1) L) j=_;rw [Qa0,Qf9 L]
  by_cases h:j=i
  .grind
  .grind
theorem Qip {L:List Nat} {n j:Nat} (h:Qro L n 0=some j):QaX (idx 0 L) j=some (some n):=by
 obtain ⟨d,_,h2⟩:=QiB h;rw [Qf9,zP (Nat.zero_le _),show j-0=d by omega,h2];rfl
theorem Qh6 {L:List Nat}:∀ {cap c:List (Nat × Nat)},QtX L cap=some c->c.length=cap.length/\∀ (j:Nat) (p:Nat × Nat),c[j]?=some p->∃ n,Qro L n 0=some p.1/\cap[j]?=some (n,p.2)
 | [],c,h=>by injection h with h;subst h;exact ⟨rfl,fun j p h=>by simp at h⟩
 | q::cap,c,h=>by
  unfold QtX at h;split at h
  .rename_i i hi
   split at h
   .rename_i r hr
    injection h with h;subst h
    obtain ⟨h1,_⟩:=Qh6 hr;refine ⟨by simp [h1],fun j p hp=>?_⟩
    cases j with
    | zero=>grind
    | succ j=>grind
   .cases h
  .cases h
theorem QCX {L:List Nat} {s t:SV} (h:inS L s=some t):SVm (idx 0 L) s t:=by
 unfold inS at h;split at h
 .grind [Qip,inS,SVm,idx]
 .grind [Qip,inS,SVm,idx]
 .grind [Qh6,Qip,inS,SVm,idx]
 .rename_i h1 h2 h3
  injection h with h;subst h
  cases s<;>first|trivial|rfl|exact .inl rfl|exact absurd rfl (h1 _ _)|exact absurd rfl (h2 _ _ _)|exact absurd rfl (h3 _ _)
theorem Qsd (L:List Nat) (s:SV):SVm (idx 0 L) s (QE2 L s):=by grind [QE2,QCX,SVm,idx]
theorem QiM (L:List Nat):∀ l:List SV,SVsM (idx 0 L) l (Qyp L l)
 | []=> .nil
 | s::l=> .cons (Qsd L s) (QiM L l)
theorem QoK (L:List Nat):∀ x:AV,AVm (idx 0 L) x (QHP L x)
 | .s x=>Qsd L x
 | .agg l=>QiM L l
theorem Ql4 (L:List Nat):∀ l:List AV,QsV (idx 0 L) l (Qyo L l)
 | []=>trivial
 | x::l=>⟨QoK L x,Ql4 L l⟩
theorem QqY (L:List Nat) (l:List AV):TVm (idx 0 L) (Qbc l) (Qbc (Qyo L l)):=by
 rcases l with _|⟨x,_|⟨y,l⟩⟩
 .exact ⟨[],rfl,trivial⟩
 .exact ⟨x,rfl,QoK L x⟩
 .exact ⟨_,rfl,Ql4 L (x::y::l)⟩
noncomputable def Qta (k:Nat):SV->Prop
 | .ptr i _=>i<k
 | .sl i _ _=>i<k
 | .fn _ cap=>∀ p∈cap,p.1<k
 | _=>True
noncomputable def Clo (H:List Row):Prop:=∀ r∈H,∀ s∈r.cells,Qta H.length s
theorem Qrp {L:List Nat} {n j:Nat} (h:Qro L n 0=some j):j<L.length:=by grind [QiB,zgs,Qro]
theorem QBh {L:List Nat} {s t:SV} (h:inS L s=some t):Qta L.length t:=by
 unfold inS at h;split at h
 .grind [Qrp,inS,Qta]
 .grind [Qrp,inS,Qta]
 .split at h
  .rename_i c hc
   injection h with h;subst h
   obtain ⟨_,h2⟩:=Qh6 hc;intro p hp;obtain ⟨j,hj⟩:=List.getElem?_of_mem hp;obtain ⟨_,h3,_⟩:=h2 j p hj;exact Qrp h3
  .cases h
 .grind [inS,Qta]
noncomputable def ems (L:List Nat):List Em:=L.map fun n=>⟨n,0⟩
theorem Qlv {L:List Nat} {n j k n0:Nat} (h:Qro L n 0=some j):Qc7 (ems L) k n0 j=⟨n,0⟩:=by grind [QiB,QcL,ems,Qro,Qc7]
theorem Qrw {L:List Nat} {s t:SV} {k n0:Nat} (h:inS L s=some t):QcQ (ems L) k n0 t=s:=by
 unfold inS at h;split at h
 .split at h
  .rename_i i hi;injection h with h;subst h;simp only [QcQ,Qlv hi,Nat.zero_add]
  .cases h
 .split at h
  .rename_i i hi;injection h with h;subst h;simp only [QcQ,Qlv hi,Nat.zero_add]
  .cases h
 .split at h
  .rename_i c hc
   injection h with h;subst h
   obtain ⟨_,h2⟩:=Qh6 hc;simp only [QcQ];congr 1;apply List.ext_getElem?;intro j;rw [zgm]
   cases e:c[j]? with
   | none=>grind
   | some p =>
    obtain ⟨_,h3,h4⟩:=h2 j p e;rw [h4];simp only [Option.map_some,Qlv h3,Nat.zero_add]
  .cases h
 .grind [inS,QcQ,ems]
theorem Qlb {L:List Nat}:∀ {l t:List SV},QxV L l=some t->t.length=l.length/\(∀ (q:Nat) s,t[q]?=some s->∃ c,l[q]?=some c/\inS L c=some s)
 | [],t,h=>by injection h with h;subst h;exact ⟨rfl,fun q s h=>by simp at h⟩
 | s::l,t,h=>by
  change (match inS L s with|some t=>(match QxV L l with|some r=>some (t::r)|none=>none)|none=>none)=some t at h;split at h
  .rename_i x hx
   split at h
   .rename_i r hr
    injection h with h;subst h
    obtain ⟨h1,_⟩:=Qlb hr;refine ⟨by simp [h1],fun q u hq=>?_⟩
    cases q with
    | zero=>grind
    | succ q=>grind
   .cases h
  .cases h
theorem QyA {L:List Nat} {k n0:Nat} {l t:List SV} (h:QxV L l=some t):t.map (QcQ (ems L) k n0)=l:=by
 obtain ⟨_,_⟩:=Qlb h;apply List.ext_getElem?;intro q;rw [zgm]
 cases e:t[q]? with
 | none=>grind
 | some s=>grind [Qrw,QxV,QcQ,ems]
theorem Qyz {L:List Nat} {k n0:Nat} {x t:AV} (h:inA L x=some t):QcZ (ems L) k n0 t=x:=by
 unfold inA at h;split at h
 .grind [QcZ,Qrw,inA,ems]
 .grind [QcZ,QyA,inA,ems]
theorem QmJ {L:List Nat} {k n0:Nat}:∀ {l t:List AV},QF2 L l=some t->t.map (QcZ (ems L) k n0)=l
 | [],t,h=>by injection h with h;subst h;rfl
 | x::l,t,h=>by
  change (match inA L x with|some t=>(match QF2 L l with|some r=>some (t::r)|none=>none)|none=>none)=some t at h;split at h
  .rename_i y hy
   split at h
   .rename_i r hr
    injection h with h;subst h
    rw [List.map_cons,Qyz hy,QmJ hr]
   .cases h
  .cases h
noncomputable def QqC (L:List Nat) (hp:Hp) (l:List Nat):Option (List Row):=List.rec (some []) (fun n _ ih=>okO (hp n) fun r=>okO (QxV L r.cells) fun c=>okO ih fun t=>some (⟨r.own,r.es,c⟩::t)) l
noncomputable def QrF (hp:Hp) (l:List Nat):Option (List (Nat × Row)):=List.rec (some []) (fun n _ ih=>okO (hp n) fun r=>okO ih fun t=>some ((n,r)::t)) l
noncomputable def QE1 (L:List Nat):Bool:=List.rec true (fun n l ih=>match Qc4 n l with
 | true=>false
 | false=>ih) L
theorem Qll:∀ {L:List Nat},QE1 L=true->∀ (a b n:Nat),L[a]?=some n->L[b]?=some n->a=b
 | [],_,a,b,n,h,_=>by simp at h
 | m::L,h,a,b,n,ha,hb=>by
  change (match Qc4 m L with|true=>false|false=>QE1 L)=true at h;split at h
  .cases h
  .rename_i hm
   have hm:=QgR hm
   cases a with
   | zero=>grind
   | succ a =>
    cases b with
    | zero=>grind
    | succ b=>rw [Qll h a b n (by simpa using ha) (by simpa using hb)]
noncomputable def QE8 (k:Nat) (u:List (Nat × Option Row)):Bool:=List.rec true (fun p _ ih=>match Nat.blt p.1 k with
 | true=>ih
 | false=>false) u
theorem QlK {k:Nat}:∀ {u:List (Nat × Option Row)},QE8 k u=true->∀ p∈u,p.1<k
 | [],_,p,h=>by cases h
 | q::u,h,p,hp=>by
  change (match Nat.blt q.1 k with|true=>QE8 k u|false=>false)=true at h;split at h
  .rename_i hb
   rcases List.mem_cons.1 hp with rfl|hp
   .simpa using hb
   .exact QlK h p hp
  .cases h
theorem Qjy {L:List Nat} {hp:Hp} {k n0:Nat} {mm:List Em} (uQ:∀ (a b n:Nat),L[a]?=some n->L[b]?=some n->a=b) (yF:mm=ems L):∀ {l:List Nat} {H:List Row} {fp:List (Nat × Row)} (i:Nat),QqC L hp l=some H->QrF hp l=some fp->(∀ j,l[j]?=L[i+j]?) ->
  QAw hp fp/\QhX mm k n0 i (ems l) H fp/\H.length=l.length/\∀ r∈H,∀ s∈r.cells,Qta L.length s
 | [],H,fp,i,h1,h2,_=>by
  injection h1 with h1;injection h2 with h2;subst h1 h2
  exact ⟨trivial,trivial,rfl,fun r h=>by cases h⟩
 | n::l,H,fp,i,h1,h2,hl=>by
  change (okO (hp n) fun r=>okO (QxV L r.cells) fun c=>okO (QqC L hp l) fun t=>some (⟨r.own,r.es,c⟩::t))=some H at h1;change (okO (hp n) fun r=>okO (QrF hp l) fun t=>some ((n,r)::t))=some fp at h2;obtain ⟨r,g1,g2⟩:=Qak h1;obtain ⟨c,g3,g4⟩:=Qak g2;obtain ⟨t,g5,g6⟩:=Qak g4;injection g6 with g6;subst g6
  obtain ⟨r',q1,q2⟩:=Qak h2;rw [g1] at q1;injection q1 with q1;subst q1
  obtain ⟨_,q3,q4⟩:=Qak q2;injection q4 with q4;subst q4
  obtain ⟨k1,k2,k3,_⟩:=Qjy (k:=k) (n0:=n0) uQ yF (i+1) g5 q3 (fun j=>by have:=hl (j+1);rw [List.getElem?_cons_succ] at this;rw [this];congr 1;omega);obtain ⟨c1,c2⟩:=Qlb g3;refine ⟨⟨g1,k1⟩,⟨rfl,⟨rfl,fun q s hq=>?_,by simp [c1],fun ho=>⟨ho,rfl,c1.symm,fun j f hj fQ=>?_⟩⟩,k2⟩,by simp [k3],?_⟩
  .obtain ⟨_,p1,p2⟩:=c2 q s hq
   simp only [Nat.zero_add];rw [p1,yF,Qrw p2]
  .rw [yF] at hj
   unfold ems at hj;rw [zgm] at hj
   cases e:L[j]? with
   | none=>grind
   | some n' =>
    rw [e] at hj;injection hj with hj;subst hj
    have h0:=hl 0;rw [Nat.add_zero] at h0;intro (e2:n'=n);subst e2;exact fQ (uQ j i n' e (by rw [<- h0];rfl))
  .intro r' hr'
   rcases List.mem_cons.1 hr' with rfl|hr'
   .intro s hs
    obtain ⟨q,hq⟩:=List.getElem?_of_mem hs;obtain ⟨_,p1,p2⟩:=c2 q s hq;exact QBh p2
   .grind
noncomputable def QBf (run:FuncId->List AV->List Row->Option Res) (f:FuncId) (l:List AV) (hp:Hp) (n0:Nat):Option (List (Nat × Row) × Ef) :=
 okO (QvW 100000 hp (QHO l) []) fun L=>okB (QE1 L) (okO (QF2 L l) fun args=>okO (QqC L hp L) fun H=>okO (run f args H) fun R =>
  okB (Nat.ble R.nw.length Qaq&&QE8 H.length R.up) (okO (QrF hp L) fun fp=>some (fp,R.ef (ems L) H.length n0)))
theorem Qs8 {P:Program} {run:FuncId->List AV->List Row->Option Res} (fC:∀ f args H R,Clo H->run f args H=some R->Fn P f args H (. =R)) (det:Bool) (f:FuncId) (l:List AV) (hp:Hp) (n0:Nat) (fp:List (Nat × Row)) (e:Ef)
  (h:QBf run f l hp n0=some (fp,e)) (K':KK) (hK:K' fp e):Qoa P det f l hp n0 K':=by
 obtain ⟨L,_,h2⟩:=Qak h;obtain ⟨g2,h3⟩:=QaH h2;obtain ⟨args,h4,h5⟩:=Qak h3;obtain ⟨H,h6,h7⟩:=Qak h5;obtain ⟨R,h8,h9⟩:=Qak h7;obtain ⟨g9,jW⟩:=QaH h9;obtain ⟨fp',yN,vS⟩:=Qak jW;injection vS with vS;injection vS with vS WY
 subst vS WY;rw [zba] at g9;obtain ⟨k1,k2,k3,k4⟩:=Qjy (k:=H.length) (n0:=n0) (Qll g2) rfl 0 h6 yN (fun j=>by rw [Nat.zero_add]);have hF:=fC f args H R (by unfold Clo;rw [k3];exact k4) h8;exact Qag hF (ems L) fp' (QmJ h4).symm k1 k2 ⟨g9.1,QlK g9.2⟩ ⟨_,rfl,hK⟩
variable {α:Type}
noncomputable def Qnv (T:Tys) (tm:Tm) (h:HE) (l:List ResultVar):(List AV->Option α)->Option α :=
 List.rec (fun K=>K []) (fun r _ ih K=>match r with
  | .tmp t=>(match tmR tm t with
   | .a x=>ih fun r=>K (x::r)
   | _=>none)
  | .cell p ty=>(match tmR tm p with
   | .a (.s (.ptr i k))=>okO (T ty) fun y=>(match y.kind.agg with
    | false=>okO (hpE h i) fun r=>okO (r.cells[k]?) fun s=>ih fun q=>K (.s s::q)
    | true=>okO (hpE h i) fun r=>QAu r.cells k y.size fun c=>ih fun q=>K (.agg c::q))
   | _=>none)) l
theorem QeJ {T:Tys} {tm:Tm} {h:HE} {σ:St} (h1:tmG σ.tm=tmG tm) (h2:hpG σ.h=hpE h) {x:α}:∀ {l:List ResultVar} {K:List AV->Option α} {K':List AV->Prop},(∀ l,K l=some x->K' l)->Qnv T tm h l K=some x->Qov T σ l K'
 | [],K,K',hK,hq=>hK _ hq
 | .tmp t::l,K,K',hK,hq=>by
  change (match tmR tm t with| .a x=>Qnv T tm h l fun r=>K (x::r)|_=>none)=some x at hq;unfold Qov;rw [h1];rw [QhU] at hq;split at hq
  .rename_i y hy
   rw [hy];exact QeJ h1 h2 (fun l hl=>hK _ hl) hq
  .cases hq
 | .cell p ty::l,K,K',hK,hq=>by
  change (match tmR tm p with
   | .a (.s (.ptr i k))=>okO (T ty) fun y=>(match y.kind.agg with
    | false=>okO (hpE h i) fun r=>okO (r.cells[k]?) fun s=>Qnv T tm h l fun q=>K (.s s::q)
    | true=>okO (hpE h i) fun r=>QAu r.cells k y.size fun c=>Qnv T tm h l fun q=>K (.agg c::q))
   | _=>none)=some x at hq
  unfold Qov;rw [h1];rw [QhU] at hq;split at hq
  .rename_i i k hy
   rw [hy];obtain ⟨y,g1,g2⟩:=Qak hq;simp only [g1];rw [h2];split at g2
   .rename_i ha
    rw [ha];obtain ⟨r,g3,g4⟩:=Qak g2;obtain ⟨s,g5,g6⟩:=Qak g4;exact ⟨r,g3,s,g5,QeJ h1 h2 (fun l hl=>hK _ hl) g6⟩
   .rename_i ha
    rw [ha];obtain ⟨r,g3,g4⟩:=Qak g2;obtain ⟨c,g5,g6⟩:=Qib g4;exact ⟨r,g3,c,g5,QeJ h1 h2 (fun l hl=>hK _ hl) g6⟩
  .cases hq
noncomputable def QzJ (h:HE) (H:List Row):Nat->Option (List (Nat × Option Row)):=List.rec (fun _=>some []) (fun _ _ ih i=>okO (lk h i) fun e=>(match e.d with
 | true=>okO (ih (i+1)) fun l=>some ((i,e.r)::l)
 | false=>ih (i+1))) H
theorem QlL {h:HE} {H0:List Row} (hc:Cln H0 h):∀ {H:List Row} {i:Nat} {l:List (Nat × Option Row)},QzJ h H i=some l->∀ n,i<=n->n<i+H.length ->
  (∃ x,QaX l n=some x/\hpE h n=x)\/(QaX l n=none/\hpE h n=H0[n]?)
 | [],i,l,hq,n,h1,h2=>by simp at h2;omega
 | r::H,i,l,hq,n,h1,h2=>by
  change (okO (lk h i) fun e=>(match e.d with|true=>okO (QzJ h H (i+1)) fun l=>some ((i,e.r)::l)|false=>QzJ h H (i+1)))=some l at hq;obtain ⟨e,g1,g2⟩:=Qak hq
  have zO:∀ {H:List Row} {i:Nat} {l:List (Nat × Option Row)},QzJ h H i=some l->∀ n,n<i->QaX l n=none:=by
   intro H
   induction H with
   | nil=>intro i l hq n hn;injection hq with hq;subst hq;rfl
   | cons r H ih =>
    intro i l hq n hn;change (okO (lk h i) fun e=>(match e.d with|true=>okO (QzJ h H (i+1)) fun l=>some ((i,e.r)::l)|false=>QzJ h H (i+1)))=some l at hq;obtain ⟨e,g1,g2⟩:=Qak hq;split at g2
    .obtain ⟨_,g3,g4⟩:=Qak g2
     injection g4 with g4;subst g4
     rw [Qa0,zN (by omega)];exact ih g3 n (by omega)
    .exact ih g2 n (by omega)
  have KU:hpE h i=e.r:=by unfold hpE;rw [g1]
  split at g2
  .obtain ⟨_,g3,g4⟩:=Qak g2
   injection g4 with g4;subst g4
   rw [Qa0]
   by_cases e1:n=i
   .grind
   .rw [zN e1]
    exact QlL hc g3 n (by omega) (by simp at h2;omega)
  .rename_i hd
   by_cases e1:n=i
   .subst e1
    refine .inr ⟨zO g2 n (by omega),?_⟩;rw [KU];rw [Qnx] at g1;exact hc _ (QbH g1) hd
   .exact QlL hc g2 n (by omega) (by simp at h2;omega)
noncomputable def nmU (u:List (Nat × Option Row)):List Nat:=List.rec [] (fun p _ ih=>(match p.2 with|some r=>nmC r.cells|none=> [])++ih) u
noncomputable def QgT (L:List Nat) (r:Row):Row:=⟨r.own,r.es,Qyp L r.cells⟩
noncomputable def QCw (L:List Nat) (u:List (Nat × Option Row)):List (Nat × Option Row):=List.rec [] (fun p _ ih=>(p.1,match p.2 with|some r=>some (QgT L r)|none=>none)::ih) u
theorem QjH (L:List Nat) (n:Nat):∀ u:List (Nat × Option Row),QaX (QCw L u) n=(QaX u n).map fun r=>r.map (QgT L)
 | []=>rfl
 | p::u=>by
  obtain ⟨k,r⟩:=p;show QaX ((k,match r with|some r=>some (QgT L r)|none=>none)::QCw L u) n=_;rw [Qa0,Qa0,QjH L n u]
  by_cases h:n=k
  .grind
  .grind
noncomputable def Qyr (L:List Nat) (hp:Hp) (l:List Nat):Option (List Row):=List.rec (some []) (fun n _ ih=>okO (hp n) fun r=>okO ih fun t=>some (QgT L r::t)) l
theorem QmE {L:List Nat} {hp:Hp}:∀ {l:List Nat} {t:List Row},Qyr L hp l=some t->t.length=l.length/\∀ (j:Nat) r',t[j]?=some r'->∃ n r,l[j]?=some n/\hp n=some r/\r'=QgT L r
 | [],t,h=>by injection h with h;subst h;exact ⟨rfl,fun j r h=>by simp at h⟩
 | n::l,t,h=>by
  change (okO (hp n) fun r=>okO (Qyr L hp l) fun t=>some (QgT L r::t))=some t at h;obtain ⟨r,_,h2⟩:=Qak h;obtain ⟨_,h3,h4⟩:=Qak h2;injection h4 with h4;subst h4
  obtain ⟨h5,_⟩:=QmE h3;refine ⟨by simp [h5],fun j r' hj=>?_⟩
  cases j with
  | zero=>grind
  | succ j=>grind
noncomputable def rng (i:Nat) (n:Nat):List Nat:=Nat.rec (fun _=> []) (fun _ ih i=>i::ih (i+1)) n i
noncomputable def QFZ (h:HE) (H:List Row) (l:List AV):Option Res :=
 okO (QzJ h H 0) fun ups=>okO (QvW 100000 (hpE h) (QHO l++nmU ups) (rng 0 H.length)) fun L=>okO (Qyr L (hpE h) (L.drop H.length)) fun nw =>
  okB (QE1 L&&idn (idx 0 L) H.length&&QzI H (QCw L ups)&&Qyj nw&&ltB (idx 0 L) (H.length+nw.length)&&QE8 H.length (QCw L ups)) (some ⟨Qbc (Qyo L l),QCw L ups,nw⟩)
theorem QvX {m:Rn} {hp:Hp}:∀ {l:Hl} {s:List Nat},(∀ n r',Qc4 n s=false->hpG l n=some r'->RowMt m hp n r')->HlS m hp s l
 | [],_,_=>trivial
 | p::l,s,h=>by
  obtain ⟨k,x⟩:=p;refine ⟨?_,QvX fun n r' h1 h2=>h n r' ?_ ?_⟩
  .cases hb:Qc4 k s with
   | true=>grind
   | false =>
    cases x with
    | none=>grind
    | some r=>exact h k r hb (by rw [Qbv];simp [Hp.set])
  .change (match Nat.beq n k with|true=>true|false=>Qc4 n s)=false at h1
   split at h1
   .cases h1
   .exact h1
  .change (match Nat.beq n k with|true=>true|false=>Qc4 n s)=false at h1
   split at h1
   .cases h1
   .rename_i hb
    rw [Qbv];unfold Hp.set;rw [zN (Nat.ne_of_beq_eq_false hb)];exact h2
theorem QqW:∀ {L:List Nat} {i:Nat} {p:Nat × Option Nat},p∈idx i L->∃ d n,p=(i+d,some n)/\L[d]?=some n
 | [],i,p,h=>by cases h
 | n::L,i,p,h=>by
  change p∈(i,some n)::idx (i+1) L at h;rcases List.mem_cons.1 h with rfl|h
  .exact ⟨0,n,rfl,rfl⟩
  .obtain ⟨d,n',h1,h2⟩:=QqW h
   exact ⟨d+1,n',by rw [h1];congr 1;omega,by simpa using h2⟩
theorem QqD {L:List Nat} (uQ:∀ (a b n:Nat),L[a]?=some n->L[b]?=some n->a=b) {n c:Nat} (h:QaX (idx 0 L) n=some (some c)):QAz (idx 0 L) n c=true:=by
 rw [Qf9,zP (Nat.zero_le _),Nat.sub_zero] at h;have h:L[n]?=some c:=by grind
 unfold QAz;rw [List.all_eq_true];intro p hp;obtain ⟨_,x,rfl,_⟩:=QqW hp;simp only [Nat.zero_add,Bool.or_eq_true,Bool.not_eq_true']
 cases hb:Nat.beq x c with
 | false=>grind
 | true=>grind [zbq,Nat.beq_refl,QaX,idx,QAz]
theorem Qzz {L:List Nat} {k:Nat} (ZW:idn (idx 0 L) k=true) {s:SV} (h:Qta k s):SVm (idx 0 L) s s:=by
 cases s with
 | ptr i o=>exact ⟨i,QfB ZW i h,rfl⟩
 | sl i o n=>exact .inl ⟨i,QfB ZW i h,rfl⟩
 | fn f cap=>grind [QfB,List.mem_of_getElem?,idn,idx,Qta,SVm]
 | _=>grind [idn,idx,Qta,SVm]
theorem Qqi {H:List Row} {h:HE} {l:List AV} {R:Res} {σ:St} (FO:Clo H) (hc:Cln H h) (hp:hpG σ.h=hpE h) (hq:QFZ h H l=some R):Fin H (. =R) σ (Qbc l):=by
 obtain ⟨_,h1,h2⟩:=Qak hq;obtain ⟨L,_,h4⟩:=Qak h2;obtain ⟨_,h5,h6⟩:=Qak h4;obtain ⟨h7,h8⟩:=QaH h6;injection h8 with h8;subst h8
 simp only [zba] at h7;obtain ⟨⟨⟨⟨⟨k1,k2⟩,_⟩,_⟩,_⟩,k6⟩:=h7;have uQ:=Qll k1;obtain ⟨_,q2⟩:=QmE h5;refine .mk _ (idx 0 L) rfl (QqY L l) (QvX fun n r' _ hr=>?_) ?_
 .rw [hp]
  rw [Qeh _ H (QlK k6)] at hr;unfold Res.app at hr;simp only [] at hr
  have row:∀ {n c:Nat} {r:Row},QaX (idx 0 L) n=some (some c)->hpE h c=some r->RowMt (idx 0 L) (hpE h) n (QgT L r):=fun {n c r} g1 g2 =>
   .inl ⟨c,r,g1,g2,rfl,fun ho=>⟨ho,QqD uQ g1⟩,QiM L r.cells⟩
  split at hr
  .rename_i hb
   obtain ⟨c,r,g1,g2,rfl⟩:=q2 _ _ hr;have hb:=Nat.le_of_ble_eq_true hb;refine row ?_ g2;rw [List.getElem?_drop,show H.length+(n-H.length)=n by omega] at g1;rw [Qf9,zP (Nat.zero_le _),Nat.sub_zero,g1];rfl
  .rename_i hb
   have gU:n<H.length:=by
    rcases Nat.lt_or_ge n H.length with h|h
    .exact h
    .rw [Nat.ble_eq_true_of_le h] at hb;cases hb
   rw [QjH] at hr;rcases QlL hc h1 n (Nat.zero_le _) (by omega) with ⟨x,g1,g2⟩|⟨g1,g2⟩
   .rw [g1] at hr
    simp only [Option.map_some] at hr
    cases x with
    | none=>cases hr
    | some r =>
     injection hr with hr;subst hr
     exact row (QfB k2 n gU) g2
   .rw [g1] at hr
    simp only [Option.map_none] at hr;refine .inl ⟨n,r',QfB k2 n gU,by rw [g2];exact hr,rfl,fun ho=>⟨ho,QqD uQ (QfB k2 n gU)⟩,rfl,fun q s hs=>⟨s,hs,Qzz k2 (FO r' (List.mem_of_getElem? hr) s (List.mem_of_getElem? hs))⟩⟩
 .grind
noncomputable def Qm9:Nat->List Row->HE
 | _,[]=> []
 | i,x::l=>(i,⟨false,some x⟩)::Qm9 (i+1) l
theorem Qi5:∀ (l:List Row) (i n:Nat),QaX (Qm9 i l) n=if i<=n then (l[n-i]?).map fun r=>⟨false,some r⟩ else none
 | [],i,n=>by show none=_;split<;>simp
 | x::l,i,n=>by
  show QaX ((i,⟨false,some x⟩)::Qm9 (i+1) l) n=_;rw [Qa0,Qi5 l (i+1) n]
  by_cases h1:n=i
  .grind
  .grind
theorem Qi4 (H:List Row):∀ (l:List Row) (i:Nat),(∀ j,l[j]?=H[i+j]?)->Cln H (Qm9 i l)
 | [],i,_,p,hp,_=>by cases hp
 | x::l,i,h,p,hp,hd=>by
  change p∈(i,(⟨false,some x⟩:En))::Qm9 (i+1) l at hp;rcases List.mem_cons.1 hp with rfl|hp
  .have:=h 0;exact this
  .exact Qi4 H l (i+1) (fun j=>by have:=h (j+1);rw [List.getElem?_cons_succ] at this;rw [this];congr 1;omega) p hp hd
structure Fd where
 (N:Nat) (res:List ResultVar) (code:Code)
abbrev Fns (P : Program) := { F : FuncId -> Option Fd // ∀ f d,F f = some d -> ∃ fn,P.funcs[f]? = some fn /\ (fn.name == "runtime.NumGoroutine") = false /\ fn.body = some d.code /\ fn.ntmps = d.N /\ fn.results.toList = d.res }
abbrev Ctr (P:Program):= { C:FuncId->List AV->List Row->Option Res // ∀ f args H R,C f args H=some R->Fn P f args H (. =R) }
section
variable {P:Program} (E:EqT P) (T:Tys) (fc:Bool) (F:Fns P) (Ct:Ctr P)
noncomputable def QwO (fuel:Nat) (run:FuncId->List AV->List Row->Option Res) (f:FuncId) (args:List AV) (H:List Row):Option Res :=
 match Ct.1 f args H with
 | some R=>some R
 | none=>okO (F.1 f) fun d=>okB (Nat.ble args.length d.N&&Nat.ble H.length 1000) (Qhh E T fc (QBf run) fuel d.N d.code (QkI 0 args) (Qm9 0 H) 0 fun e tm h _=>match e with
  | .normal=>Qnv T tm h d.res fun l=>QFZ h H l
  | .ret=>Qnv T tm h d.res fun l=>QFZ h H l
  | _=>none)
noncomputable def QnT (fuel depth:Nat):FuncId->List AV->List Row->Option Res:=Nat.rec (fun _ _ _=>none) (fun _ ih=>QwO E T fc F Ct fuel ih) depth
variable {E T fc F Ct}
theorem QlB (hm:P.follows .mixedOrders=true) (hT:QaU P T) {fuel:Nat}:∀ (depth:Nat) (f:FuncId) (args:List AV) (H:List Row) (R:Res),Clo H->QnT E T fc F Ct fuel depth f args H=some R->Fn P f args H (. =R)
 | 0,_,_,_,_,_,h=>by cases h
 | d+1,f,args,H,R,FO,h=>by
  change QwO E T fc F Ct fuel (QnT E T fc F Ct fuel d) f args H=some R at h;unfold QwO at h;split at h
  .grind
  .obtain ⟨fd,h1,h2⟩:=Qak h
   obtain ⟨h2,h3⟩:=QaH h2;obtain ⟨_,g1,g2,g3,g4,g5⟩:=F.2 f fd h1;refine Qmn hm hT fd.N fd.res g1 g2 g3 g4 g5 h2 ?_;have ih:=QlB hm hT (fuel:=fuel) d;refine Qtk (α:=Res) (H:=H) (Qs8 ih) fd.code _ _ _ _ R _ _ h3 ⟨rfl,?_,rfl,Qi4 H H 0 fun j=>by rw [Nat.zero_add]⟩ fun e tm h n σ hk hs=>?_
   .grind [hpE,Qnx,Qi5,Qdq,QaU,Clo,QnT,Fn]
   .cases e with
    | normal=>exact QeJ hs.tm hs.hp (fun l hl=>Qqi FO hs.cln hs.hp hl) hk
    | ret=>exact QeJ hs.tm hs.hp (fun l hl=>Qqi FO hs.cln hs.hp hl) hk
    | exit i=>cases hk
    | goto i=>cases hk
    | panic c=>cases hk
    | outgrown=>cases hk
end
end Go.Proofs.YtpgkkfajljekpabGreat
namespace Go.Proofs.YtpgkkfajljekpabGreat
open Go
theorem Qua : (Tryz.prog.funcs.toList.all fun fn => !(fn.name == "runtime.NumGoroutine")) = true := by kernel_rfl
noncomputable def QF0:FuncId->Option Fd:=fun f=>match Tryz.prog.funcs[f]? with
 | some fn=>(match fn.body with
  | some c=>some ⟨fn.ntmps,fn.results.toList,c⟩
  | none=>none)
 | none=>none
theorem QBZ : ∀ f d,QF0 f = some d -> ∃ fn,Tryz.prog.funcs[f]? = some fn /\ (fn.name == "runtime.NumGoroutine") = false /\ fn.body = some d.code /\ fn.ntmps = d.N /\ fn.results.toList = d.res := by
 intro f d h;unfold QF0 at h;split at h
 .rename_i fn hf
  split at h
  .rename_i c hc
   injection h with h
   subst h;refine ⟨fn,hf,?_,hc,rfl,rfl⟩
   have:=List.all_eq_true.1 Qua fn (by
    obtain ⟨hi,rfl⟩:=Array.getElem?_eq_some_iff.1 hf
    exact Array.getElem_mem_toList hi)
   simpa using this
  .cases h
 .cases h
noncomputable def fns:Fns Tryz.prog:=⟨QF0,QBZ⟩
noncomputable def eqTL:List Nat:= [7,8,27,28,29,30,32,33,34,35,36,37,38,39,40,41,62,63,70,71,74,75,90,91,101,102,107,108,120,121,127,128,131,132,149,150,201,202,203,213,214,232,235,236,266,267]
theorem Qxl:(eqTL.all fun i=>(match tys i with|some y=>y.kind.agg|none=>false)&&(Qjd Tryz.prog 8 i&& !(Tryz.prog.eqGuardType Tryz.prog.depth i)))=true:=by kernel_rfl
noncomputable def QET (t:TypeId):Option (List SK):=match Qc4 t eqTL with|true=>shp tys 8 t|false=>none
theorem Qjr:∀ t ks,QET t=some ks->∀ l1 l2 b,QaQ ks l1 l2=some b->QAT Tryz.prog t l1 l2 b:=by
 intro t ks h l1 l2 b he;unfold QET at h;split at h
 .rename_i hm
  have hq:=List.all_eq_true.1 Qxl t (Qgc hm);simp only [zba,Bool.not_eq_true'] at hq;obtain ⟨h1,h2,h3⟩:=hq;split at h1
  .rename_i y hy
   exact QFN Qm2 hy h1 h h2 h3 he
  .cases h1
 .cases h
noncomputable def eqt:EqT Tryz.prog:=⟨QET,Qjr⟩
noncomputable def QCi:Ctr Tryz.prog:=⟨fun _ _ _=>none,fun _ _ _ _ h=>by cases h⟩
theorem Qj5 {fuel depth:Nat} {f:FuncId} {args:List AV} {R:Res} (h:QnT eqt tys true fns QCi fuel depth f args []=some R):FN f args [] (. =R):=QlB Qyc Qm2 depth f args [] R (fun _ h=>by cases h) h
theorem eqR {t:TypeId} {l1 l2:List SV} {K:Bool->Prop} {ks:List SK} {b:Bool} (k:K b) (h1:QET t=some ks:=by exact rfl) (h2:QaQ ks l1 l2=some b:=by exact rfl):Eqs Tryz.prog t l1 l2 K:= .mk b (Qjr t ks h1 l1 l2 b h2) k
theorem zse {P Q:Prop} (k:Q) (h:Q->P:=by (first|((with_reducible apply vlk (α:=Nat));exact aNt)|((with_reducible apply sdd);kernel_rfl)|(apply sdk;exact aSd)|((with_reducible apply vlk (α:=Int));exact aAr)|((with_reducible first|apply vlk (α:=Bool)|apply vlk (α:=Nat)|apply vlk (α:=ByteArray)|apply gek (α:=Row)|apply gek (α:=SV)|apply gek (α:=AV));exact rfl)|(exact QFx rfl)|((with_reducible first|apply vlk (α:=List SV)|apply vlk (α:=Ef)|apply vlk (α:=TV)|apply gek (α:=List SV)|apply sgk|apply skk);exact aCl)|(apply sdk;exact aS2)|exact fun k=>eqR k)):P:=h k
end Go.Proofs.YtpgkkfajljekpabGreat
namespace Go.Proofs.YtpgkkfajljekpabGreat
open Go Go.RowKit
theorem QFU {e n c}:Fc (SV.fz e n c) (.fz e n c):=⟨rfl⟩
theorem QsB {ρ':Nm} {p:PL} {k n:Nat} {v:Value} (hk:ρ' k=some p) (hp:(∃ L,p= .at L/\((∃ A c,v= .slice A n c/\n<=c/\((A=some ⟨L.b,L.δ,none⟩/\L.δ+c*L.es<=L.tot)\/c=0))))\/(p= .empty/\∃ A,v= .slice A n 0/\n<=0)):VS ρ' (.sl k 0 n) v:=by grind [VS]
theorem Qpd {H:List Row} {ρ:Nm} {w:World} {es n:Nat} {cells:List SV} {v:Value} (hc:Conc ⟨w,Qhf H ρ,ρ.fr⟩ ρ (Hs H) w) (hd:∀ i,H.length<=i->ρ i=none) (hv:VS ρ (.fz es n cells) v) :
  ∃ ρ':Nm,Ext ρ ρ'/\ρ'.fr=ρ.fr/\(∀ i,H.length+1<=i->ρ' i=none)/\(∀ i,i<H.length->ρ' i=ρ i)/\VS ρ' (.sl H.length 0 n) v/\Qhf (H++ [⟨false,es,cells⟩]) ρ'=Qhf H ρ/\Conc ⟨w,Qhf H ρ,ρ.fr⟩ ρ' (Hs (H++ [⟨false,es,cells⟩])) w:=by
 obtain ⟨A,c,rfl,h1,h2⟩:=hv
 obtain ⟨p,uU,GW⟩:∃ p:PL,((∃ L,p= .at L/\((∃ A' c',Value.slice A n c= .slice A' n c'/\n<=c'/\((A'=some ⟨L.b,L.δ,none⟩/\L.δ+c'*L.es<=L.tot)\/c'=0))))\/(p= .empty/\∃ A',Value.slice A n c= .slice A' n 0/\n<=0))/\((∃ L,p= .at L/\ρ.fr L cells/\L.es=es)\/(p= .empty/\cells= [])):=by
  rcases h2 with ⟨L,g1,g2,g3⟩|⟨g1,g2⟩
  .exact ⟨.at L,.inl ⟨L,rfl,A,c,rfl,h1,g3⟩,.inl ⟨L,rfl,g1,g2⟩⟩
  .simp_all
 have hk:ρ H.length=none:=hd _ (Nat.le_refl _);have zO:∀ i,i<H.length->Nm.set ρ H.length p i=ρ i:=fun i hi=>by unfold Nm.set;simp only [];rw [zN (by omega)]
 have jN:=Nm.set_same ρ H.length p;have hx:=Nm.set_ext hk p
 have qK:∀ i r,Hs (H++ [⟨false,es,cells⟩]) i=some r->(i<H.length/\Hs H i=some r)\/(i=H.length/\r=⟨false,es,cells⟩):=fun i r hr=>by
  unfold Hs at hr |-
  by_cases h:i<H.length
  .grind
  .grind
 have hO:Qhf (H++ [⟨false,es,cells⟩]) (Nm.set ρ H.length p)=Qhf H ρ:=by grind [zgs,zgl,Qhf,Hs,VS]
 refine ⟨Nm.set ρ H.length p,hx,rfl,fun i hi=>?_,zO,QsB jN uU,hO,⟨fun i r hr=>?_,fun i r j s Li Lj g1 g2 g3 g4 g5 g6=>?_,fun i r L g1 g2 g3=>?_,rfl,rfl,rfl,Nat.le_refl _,fun _ _ _=>rfl,fun L k hf=>?_⟩⟩
 .grind [Nm.set,Qhf,Hs,VS]
 .rcases qK i r hr with ⟨a1,a2⟩|⟨rfl,rfl⟩
  .exact (hc.rows i r a2).ext hx
  .unfold RowOk
   rw [jN];rcases GW with ⟨L,rfl,a1,a2⟩|⟨rfl,a1⟩
   .obtain ⟨⟨b1,c',t,fz,b2,b3,b4⟩,_⟩:=hc.frz L cells a1
    exact ⟨a2,b1,c',t,fz,b2,b3,fun h=>(by cases h),fun k s hk=>by obtain ⟨v,q1,q2⟩:=b4 k s hk;exact ⟨v,q1,q2.vs _⟩⟩
   .exact a1
 .rcases qK i r g1 with ⟨a1,a2⟩|⟨rfl,rfl⟩
  .rw [zO i a1] at g5
   rcases qK j s g3 with ⟨b1,b2⟩|⟨rfl,rfl⟩
   .rw [zO j b1] at g6
    exact hc.apart i r j s Li Lj a2 g2 b2 g4 g5 g6
   .rw [jN] at g6
    rcases GW with ⟨L,rfl,c1,c2⟩|⟨rfl,c1⟩
    .injection g6 with g6;injection g6 with g6;subst g6
     exact (hc.frz L cells c1).2.1 i r Li a2 g2 g5
    .cases g6
  .cases g2
 .grind [Qhf,Hs,VS]
 .obtain ⟨f1,_,f3⟩:=hc.frz L k hf
  refine ⟨f1,fun i r Li g1 g2 g3=>?_,f3⟩;rcases qK i r g1 with ⟨a1,a2⟩|⟨rfl,rfl⟩
  .grind
  .cases g2
theorem QgE {P:Program} {f:FuncId} {args args':List AV} {H:List Row} {es n:Nat} {cells:List SV} {R R':Res} (m:Rn)
  (hF:Fn P f args (H++ [⟨false,es,cells⟩]) (. =R))
  (hC:∀ (ρ:Nm) (vs:List Value),VAs ρ args' vs->∃ v,VS ρ (.fz es n cells) v/\∀ ρ':Nm,Ext ρ ρ'->VS ρ' (.sl H.length 0 n) v->VAs ρ' args vs)
  (h2:TVm m R.v R'.v) (h3:HlL m (R.app (H++ [⟨false,es,cells⟩])) (QxG R' H)) (h4:(QzI H R'.up&&Qyj R'.nw&&idn m H.length&&ltB m (H.length+R'.nw.length))=true) :
  Fn P f args' H (. =R'):=by
 refine ⟨hF.1,fun ρ w vs hd ha hc=>?_⟩;obtain ⟨v,hv,hargs⟩:=hC ρ vs.toList ha;obtain ⟨ρ1,hx,jB,WD,_,UI,hO,WC⟩:=Qpd hc hd hv;have hc1':Conc ⟨w,Qhf (H++ [⟨false,es,cells⟩]) ρ1,ρ1.fr⟩ ρ1 (Hs (H++ [⟨false,es,cells⟩])) w:=by rw [hO,jB];exact WC
 refine (hF.2 ρ1 w vs (fun i hi=>WD i (by simpa using hi)) (hargs ρ1 hx UI) hc1').mono fun e w' he=>?_
 obtain ⟨_,u,ρ2,rfl,rfl,q1,_,q3,q4,_,_,_⟩:=he;rw [hO,jB] at q4;rw [zba,zba,zba] at h4;obtain ⟨⟨⟨g5,g6⟩,g7⟩,g8⟩:=h4;have vQ:=Qfr g5;refine ⟨R',u,QgN m ρ2,rfl,rfl,Qen (G:=⟨ρ,H.length⟩) g7 rfl hd (hx.trans q1),fun i hi=>?_,Qg9 q3 h2,?_,fun p hp=>(vQ p hp).1,Qff g6,fun p hp=>(vQ p hp).2⟩
 .rw [Qa8]
  cases e:QaX m i with
  | none=>rfl
  | some x =>
   have:=List.all_eq_true.1 g8 _ (QbH e);simp at this;omega
 .rw [<- Qeh R' H (fun p hp=>by obtain ⟨_,hr,_⟩:=(vQ p hp).1;exact (zgs.1 hr).1)]
  exact Qf1 q4 (Qmr h3)
theorem Qqx {es n k:Nat} {cells:List SV} {pre post:List AV} (ρ:Nm) (vs:List Value) (h:VAs ρ (pre++ [.s (.fz es n cells)]++post) vs) :
  ∃ v,VS ρ (.fz es n cells) v/\∀ ρ':Nm,Ext ρ ρ'->VS ρ' (.sl k 0 n) v->VAs ρ' (pre++ [.s (.sl k 0 n)]++post) vs:=by
 obtain ⟨v,h1,h2⟩:=h.2 pre.length (.s (.fz es n cells)) (by simp);refine ⟨v,h2,fun ρ' hx hv=>⟨by have:=h.1;simpa using this,fun j s hj=>?_⟩⟩
 by_cases e:j=pre.length
 .subst e
  have:s= .s (.sl k 0 n):=by simpa using hj.symm
  subst this;exact ⟨v,h1,hv⟩
 .have YO:(pre++ [AV.s (.fz es n cells)]++post)[j]?=some s:=by
   rw [List.append_assoc] at hj |-
   by_cases hl:j<pre.length
   .grind
   .grind
  obtain ⟨u,g1,g2⟩:=h.2 j s YO;exact ⟨u,g1,g2.ext hx⟩
theorem QvZ {es n k:Nat} {cells l1 l2:List SV} {pre post:List AV} (ρ:Nm) (vs:List Value) (h:VAs ρ (pre++ [.agg (l1++ [.fz es n cells]++l2)]++post) vs) :
  ∃ v,VS ρ (.fz es n cells) v/\∀ ρ':Nm,Ext ρ ρ'->VS ρ' (.sl k 0 n) v->VAs ρ' (pre++ [.agg (l1++ [.sl k 0 n]++l2)]++post) vs:=by
 obtain ⟨u,h1,cs,rfl,h3⟩:=h.2 pre.length (.agg (l1++ [.fz es n cells]++l2)) (by simp);obtain ⟨v,_,h5⟩:=h3.2 l1.length (.fz es n cells) (by simp);refine ⟨v,h5,fun ρ' hx hv=>⟨by have:=h.1;simpa using this,fun j s hj=>?_⟩⟩
 by_cases e:j=pre.length
 .subst e
  have:s= .agg (l1++ [.sl k 0 n]++l2):=by simpa using hj.symm
  subst this;refine ⟨_,h1,cs,rfl,by have:=h3.1;simpa using this,fun i t hi=>?_⟩
  by_cases e2:i=l1.length
  .grind
  .have hi':(l1++ [SV.fz es n cells]++l2)[i]?=some t:=by
    rw [List.append_assoc] at hi |-
    by_cases hl:i<l1.length
    .grind
    .grind
   obtain ⟨x,g1,g2⟩:=h3.2 i t hi';exact ⟨x,g1,g2.ext hx⟩
 .have YO:(pre++ [AV.agg (l1++ [SV.fz es n cells]++l2)]++post)[j]?=some s:=by
   rw [List.append_assoc] at hj |-
   by_cases hl:j<pre.length
   .grind
   .grind
  obtain ⟨u,g1,g2⟩:=h.2 j s YO;exact ⟨u,g1,g2.ext hx⟩
theorem Qd6 (n k:Int) (h3:1<=k) (h4:k<=4611686018427387904):FN 16 [.s (.i n),.s (.i k)] [] (. =⟨.a (.s (.i (n%k))),[],[]⟩):=by
 have hz:(k==0)=false:=by simp;omega
 have hb:=Int.tmod_lt_of_pos n (show 0<k by omega);have ZI:=Int.lt_tmod_of_pos n (show 0<k by omega)
 have he:n%k=if n.tmod k<0 then n.tmod k+k else n.tmod k:=by
  rw [Int.tmod_eq_emod];have:=Int.emod_nonneg n (show k≠0 by omega);have:=Int.emod_lt_of_pos n (show 0<k by omega);split
  .rw [zN (by omega)];omega
  .rename_i h
   rw [Int.natAbs_of_nonneg (by omega),zP (by omega)];omega
 refine fnW Tryz.func16 ?_;(conv=>whnf);(repeat' ((first|exact zi0|refine zj0 fun hb=>?_|refine zs0 ?_|refine zbb ?_ ?_)<;>conv=>whnf))
 .exact Qam rfl (by simp only [Qbc];rw [he,zP hb])
 .exact Qam rfl (by simp only [Qbc];rw [he,zN (by omega)])
def nxA (x:Int):Int:=IntKind.u64.wrap (x+11400714819323198485)
def nxB (x:Int):Int:=IntKind.u64.wrap (bits BinOp.xor IntKind.u64 (nxA x) (nxA x / 1073741824)*13787848793156543929)
def nxC (x:Int):Int:=IntKind.u64.wrap (bits BinOp.xor IntKind.u64 (nxB x) (nxB x / 134217728)*10723151780598845931)
def nxZ (x:Int):Int:=bits BinOp.xor IntKind.u64 (nxC x) (nxC x / 2147483648)
theorem Qsm (n:Int):0<=IntKind.u64.wrap n/\IntKind.u64.wrap n<18446744073709551616:=by rw [IntKind.wrap_u64];omega
theorem Qrb (x:Int):0<=nxZ x/\nxZ x<18446744073709551616:=Qsm _
theorem Qyh (x:Int):FN 142 [.s (.w x)] [] (. =⟨.tup [.s (.w (nxZ x)),.s (.w (nxA x))],[],[]⟩):=by
 refine fnW Tryz.func142 ?_;(conv=>whnf);(repeat' ((first|exact zi0|refine zj0 fun hb=>?_|((with_reducible apply Vl.mk (α:=Int)); . rfl)|refine zs0 ?_|refine zbb ?_ ?_)<;>conv=>whnf))
 all_goals exact Qam rfl rfl
def mix (n k:Int):Int:=nxZ (bits BinOp.xor IntKind.u64 (IntKind.u64.wrap n) (IntKind.u64.wrap (IntKind.u64.wrap k*11400714819323198485))) / 2
theorem QjL (n k:Int):0<=mix n k/\mix n k<=9223372036854775807:=by
 have:=Qrb (bits BinOp.xor IntKind.u64 (IntKind.u64.wrap n) (IntKind.u64.wrap (IntKind.u64.wrap k*11400714819323198485)));unfold mix;omega
theorem Qt8 (n k:Int):IntKind.i64.wrap (nxZ (bits BinOp.xor IntKind.u64 (IntKind.u64.wrap n) (IntKind.u64.wrap (IntKind.u64.wrap k*11400714819323198485))) / 2^min (Int.toNat 1) IntKind.u64.bits)=mix n k:=by
 rw [show (2:Int)^min (Int.toNat 1) IntKind.u64.bits=2 from rfl];have:=QjL n k;exact Qb4 (by unfold mix at this;omega) (by unfold mix at this;omega)
theorem QCf (n k:Int):FN 85 [.s (.i n),.s (.i k)] [] (. =⟨.a (.s (.i (mix n k))),[],[]⟩):=by
 refine fnW Tryz.func85 ?_;(conv=>whnf);(repeat' ((first|exact zi0|refine zj0 fun hb=>?_|(refine Qad (f:=142) (Qyh _) rfl ?_)|((with_reducible apply Vl.mk (α:=Int)); . first|exact Qt8 n k|rfl)|refine zs0 ?_|refine zbb ?_ ?_)<;>conv=>whnf))
 all_goals exact Qam rfl rfl
theorem Qim (k:IntKind) (ls:List Int) (i:Nat) (h:i<ls.length):(isv k ls)[i]?=some (.int k (ls.getD i 0)):=by
 unfold isv;rw [zgm,zgg h];simp [List.getD,h]
theorem QaM (k:IntKind) (ls:List Int):Qao (isv k ls)=true:=by
 induction ls with
 | nil=>rfl
 | cons x xs ih=>exact ih
def QAJ (o x y:Int):Bool:=if o=40 then x==y else if o=41 then x !=y else if o=42 then decide (IntKind.i32.wrap x<IntKind.i32.wrap y) else if o=43 then decide (IntKind.i32.wrap x>=IntKind.i32.wrap y) else if o=44 then decide (x<y) else decide (x>=y)
theorem Qrd (o x y:Int):FN 184 [.s (.i o),.s (.u x),.s (.u y)] [] (. =⟨.a (.s (.bool (QAJ o x y))),[],[]⟩):=by
 refine fnW Tryz.func184 ?_;(conv=>whnf);(repeat' ((first|exact zi0|refine zj0 fun hb=>?_|((with_reducible apply Vl.mk (α:=Int)); . rfl)|refine zs0 ?_|refine zbb ?_ ?_)<;>conv=>whnf))
 all_goals first
  | (subst hb;exact Qam rfl rfl)
  | (refine Qam rfl ?_;simp only [Qbc];unfold QAJ;rw [zN (by omega),zN (by omega),zN (by omega),zN (by omega),zN (by omega)])
structure Mi where
 (o:Int) (a b c k:Nat) (n:Int)
def Mi.C (m:Mi):List SV:= [.i m.o,.i m.a,.i m.b,.i m.c,.u m.k,.i m.n]
def mcs:List Mi->List SV
 | []=> []
 | m::l=>m.C++mcs l
theorem QcK:∀ l:List Mi,(mcs l).length=l.length*6
 | []=>rfl
 | m::l=>by show (m.C++mcs l).length=_;rw [zla,QcK l];simp [Mi.C];omega
theorem Qbb:∀ l:List Mi,Qao (mcs l)=true
 | []=>rfl
 | m::l=>Qbb l
theorem QgP:∀ l:List Mi,Qat (mcs l)=true
 | []=>rfl
 | m::l=>QgP l
theorem Qlh:∀ l l':List Mi,mcs (l++l')=mcs l++mcs l'
 | [],l'=>rfl
 | m::l,l'=>by show m.C++mcs (l++l')=(m.C++mcs l)++mcs l';rw [Qlh l l',List.append_assoc]
theorem QjK:∀ (l:List Mi) (j:Nat) (m:Mi),l[j]?=some m->∀ i,i<6->(mcs l)[j*6+i]?=(m.C)[i]?
 | m'::l,0,m,h,i,hi=>by
  injection h with h;subst h
  show (m'.C++mcs l)[0*6+i]?=_;rw [Nat.zero_mul,Nat.zero_add,zgl (by simp [Mi.C];omega)]
 | m'::l,j+1,m,h,i,hi=>by
  show (m'.C++mcs l)[(j+1)*6+i]?=_;rw [zgr (by simp [Mi.C];omega)];have:(j+1)*6+i-(m'.C).length=j*6+i:=by simp [Mi.C];omega
  rw [this];exact QjK l j m (by simpa using h) i hi
theorem QgQ (l:List Mi) (j:Nat) (m:Mi) (h:l[j]?=some m):(m.C).length=6/\∀ (i:Nat) s,(m.C)[i]?=some s->(mcs l)[j*6+i]?=some s :=
 ⟨rfl,fun i s hs=>by
  have hi:i<6:=(zgs.1 hs).1
  rw [QjK l j m h i hi];exact hs⟩
theorem Qx9 (l:List Mi) (j:Nat) (m:Mi) (hj:j<l.length):QaC (mcs l) (j*6) m.C=mcs (l.set j m):=by
 apply List.ext_getElem?;intro i;rw [Qbj _ _ _ _ (by rw [QcK];show j*6+6<=_;omega)];have gF:(m.C).length=6:=rfl
 by_cases h:i / 6<l.length
 .have e:i=i / 6*6+i%6:=by omega
  have hm:i%6<6:=Nat.mod_lt _ (by omega)
  by_cases zM:i / 6=j
  .rw [zP (by omega),e,QjK (l.set j m) (i / 6) m (by rw [zM,List.getElem?_set_self hj]) _ hm]
   congr 1;omega
  .have hl:=zgg h
   rw [zN (by omega),e,QjK l (i / 6) _ hl _ hm,QjK (l.set j m) (i / 6) _ (by rw [List.getElem?_set_ne (by omega)];exact hl) _ hm]
 .rw [zN (by omega),List.getElem?_eq_none (by rw [QcK];omega),List.getElem?_eq_none (by rw [QcK,List.length_set];omega)]
end Go.Proofs.YtpgkkfajljekpabGreat
