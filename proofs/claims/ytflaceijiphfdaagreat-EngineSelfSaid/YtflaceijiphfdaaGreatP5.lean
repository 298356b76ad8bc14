import Derived.Test.YtflaceijiphfdaaGreatP4
set_option linter.unusedSimpArgs false
set_option linter.unusedVariables false
set_option maxHeartbeats 0
set_option maxRecDepth 100000
namespace Go.Proofs.YtflaceijiphfdaaGreat
open Go Go.RowKit
def kEq:IntKind->IntKind->Bool
 | .i8,.i8=>true| .i16,.i16=>true| .i32,.i32=>true| .i64,.i64=>true
 | .u8,.u8=>true| .u16,.u16=>true| .u32,.u32=>true| .u64,.u64=>true
 | _,_=>false
theorem Ql1 {a b:IntKind} (h:kEq a b=true):a=b:=by cases a<;>cases b<;>first|rfl|cases h
def QdZ:List UInt8->List UInt8->Bool
 | [],[]=>true
 | a::l,b::m=>match Nat.beq a.toNat b.toNat with
  | true=>QdZ l m
  | false=>false
 | _,_=>false
theorem QbN:∀ l m:List UInt8,QdZ l m=(l==m)
 | [],[]=>rfl
 | a::l,[]=>rfl
 | [],b::m=>rfl
 | a::l,b::m=>by
  unfold QdZ;rw [QbN l m]
  cases hb:Nat.beq a.toNat b.toNat with
  | true =>
   have:a=b:=UInt8.toNat_inj.1 (zbq hb);subst this;simp
  | false=>grind [Nat.beq_refl,QdZ,Nat.beq,zbq]
inductive SK where
 | int|bool|str
def eqS:SK->SV->SV->Option Bool
 | .int,.int k m,.int k' n=>match kEq k k' with
  | true=>some (m==n)
  | false=>none
 | .bool,.bool m,.bool n=>some (m==n)
 | .str,.str m,.str n=>some (QdZ m.data.toList n.data.toList)
 | _,_,_=>none
def QaP:List SK->List SV->List SV->Option Bool
 | [],[],[]=>some true
 | k::ks,a::l,b::m=>match eqS k a b with
  | some x=>match QaP ks l m with
   | some y=>some (x&&y)
   | none=>none
  | none=>none
 | _,_,_=>none
theorem Qd3:∀ {ks:List SK} {l m:List SV} {b:Bool},QaP ks l m=some b->l.length=ks.length/\m.length=ks.length
 | [],[],[],b,_=>⟨rfl,rfl⟩
 | k::ks,a::l,c::m,b,h=>by
  unfold QaP at h;split at h
  .split at h
   .rename_i y hy;have:=Qd3 hy;simp [this]
   .cases h
  .cases h
 | [],_::_,_,_,h=>by cases h
 | [],[],_::_,_,h=>by cases h
 | _::_,[],_,_,h=>by cases h
 | _::_,_::_,[],_,h=>by cases h
theorem QcB:∀ {ks ks':List SK} {l m:List SV} {b:Bool},QaP (ks++ks') l m=some b ->
  ∃ x y,QaP ks (l.take ks.length) (m.take ks.length)=some x/\QaP ks' (l.drop ks.length) (m.drop ks.length)=some y/\b=(x&&y)
 | [],ks',l,m,b,h=>⟨true,b,by simp [QaP],by simpa using h,by simp⟩
 | k::ks,ks',a::l,c::m,b,h=>by
  change QaP (k::(ks++ks')) (a::l) (c::m)=some b at h;unfold QaP at h;split at h
  .rename_i x hx
   split at h
   .rename_i y hy
    injection h with h
    obtain ⟨u,v,h1,h2,rfl⟩:=QcB hy;refine ⟨x&&u,v,?_,by simpa using h2,by rw [<- h,Bool.and_assoc]⟩;simp only [List.length_cons,List.take_succ_cons];unfold QaP;rw [hx,h1]
   .cases h
  .cases h
 | _::_,_,[],_,_,h=>by cases h
 | _::_,_,_::_,[],_,h=>by cases h
def QEW (ag:Bool) (ρ:Nm) (l:List SV) (v:Value):Prop:=match ag with
 | true=>∃ cs,v= .agg cs/\VSs ρ l cs.toList
 | false=>∃ s,l= [s]/\VS ρ s v
def QzT (P:Program) (d:Nat) (t:TypeId) (ag:Bool) (ks:List SK):Prop :=
 ∀ (ρ:Nm) (w:World) (l l':List SV) (v v':Value) (b:Bool),QEW ag ρ l v->QEW ag ρ l' v'->QaP ks l l'=some b->(Op.equalIn d t v v').run P w= .ok b w
theorem QfP {P:Program} {T:Tys} (hT:QaU P T) {t:TypeId} {y:Ty} (hy:T t=some y) {ρ:Nm} {w:World} {l:List SV} {cs:Array Value} (h:VSs ρ l cs.toList) (off:Nat) (hl:off+y.size<=l.length) (hs:y.kind.agg=false->y.size=1) :
  ∃ v,(part t cs off).run P w= .ok v w/\QEW y.kind.agg ρ ((l.drop off).take y.size) v:=by
 have ha:=(hT t y hy).agg w;have hz:=(hT t y hy).sizeOf w;have gF:l.length=cs.size:=by have:=h.1;simpa using this
 cases e:y.kind.agg with
 | true =>
  rw [e] at ha;refine ⟨.agg (cs.extract off (off+y.size)),by simp [part,ha,hz],_,rfl,?_⟩;exact QvE h off y.size
 | false =>
  rw [e] at ha;have h1:=hs e;rw [h1] at hl |-;have gO:off<l.length:=by omega
  obtain ⟨v,h2,h3⟩:=h.2 off _ (zgg gO);have h2:cs[off]?=some v:=by simpa using h2
  refine ⟨v,by simp [part,ha,h2],l[off],?_,h3⟩;rw [List.drop_eq_getElem_cons gO];rfl
theorem QsW {P:Program} {d:Nat} {t:TypeId} {k:IntKind} (h:P.underlying t=some (.int k)):QzT P (d+1) t false [.int]:=by
 rintro ρ w l l' v v' b ⟨s,rfl,h1⟩ ⟨s',rfl,h2⟩ he;unfold QaP at he;split at he
 .rename_i x hx
  simp only [QaP,Option.some.injEq,Bool.and_true] at he;subst he;unfold eqS at hx;split at hx<;>try cases hx
  .split at hx
   .rename_i hk
    injection hx with hx;subst hx
    have:=Ql1 hk;subst this;have h1:v=_:=h1;have h2:v'=_:=h2;rw [h1,h2];exact run_equalIn_int w d t _ k _ _ h
   .cases hx
  all_goals contradiction
 .cases he
theorem Qo6 {P:Program} {d:Nat} {t:TypeId} (h:P.underlying t=some .bool):QzT P (d+1) t false [.bool]:=by
 rintro ρ w l l' v v' b ⟨s,rfl,h1⟩ ⟨s',rfl,h2⟩ he;unfold QaP at he;split at he
 .rename_i x hx
  simp only [QaP,Option.some.injEq,Bool.and_true] at he;subst he;unfold eqS at hx;split at hx<;>try cases hx
  .grind
  .have h1:v=_:=h1
   have h2:v'=_:=h2;rw [h1,h2];exact run_equalIn_bool w d t _ _ h
  .grind
 .cases he
theorem QsX {P:Program} {d:Nat} {t:TypeId} (h:P.underlying t=some .string):QzT P (d+1) t false [.str]:=by
 rintro ρ w l l' v v' b ⟨s,rfl,h1⟩ ⟨s',rfl,h2⟩ he;unfold QaP at he;split at he
 .rename_i x hx
  simp only [QaP,Option.some.injEq,Bool.and_true] at he;subst he;unfold eqS at hx;split at hx<;>try cases hx
  .grind
  .grind
  .have h1:v=_:=h1
   have h2:v'=_:=h2;rw [h1,h2,run_equalIn_string w d t _ _ h,QbN,ByteArray.toList_eq,ByteArray.toList_eq]
 .cases he
def QCn (sh:TypeId->Option (List SK)):Nat->List (Nat × TypeId)->Option (List SK)
 | _,[]=>some []
 | o,p::l=>match Nat.beq p.1 o with
  | true=>match sh p.2 with
   | some a=>match QCn sh (o+a.length) l with
    | some b=>some (a++b)
    | none=>none
   | none=>none
  | false=>none
def QAc (a:List SK):Nat->List SK
 | 0=> []
 | n+1=>a++QAc a n
def shp (T:Tys):Nat->TypeId->Option (List SK)
 | 0,_=>none
 | d+1,t=>match T t with
  | some y=>match y.kind with
   | .int _=>match Nat.beq y.size 1 with|true=>some [.int]|false=>none
   | .bool=>match Nat.beq y.size 1 with|true=>some [.bool]|false=>none
   | .str=>match Nat.beq y.size 1 with|true=>some [.str]|false=>none
   | .struct fs=>match QCn (shp T d) 0 fs with
    | some a=>match Nat.beq a.length y.size&&Nat.blt 0 y.size with|true=>some a|false=>none
    | none=>none
   | .array n e=>match shp T d e with
    | some a=>match Nat.beq (QAc a n).length y.size&&Nat.blt 0 y.size with|true=>some (QAc a n)|false=>none
    | none=>none
   | _=>none
  | none=>none
def QlH (c:TypeId->Bool):List Field->Bool
 | []=>true
 | f :: l => (f.name != "_") && c f.type && QlH c l
def QiS (P:Program):Nat->TypeId->Bool
 | 0,_=>true
 | d+1,t=>match P.underlying t with
  | some (.struct fs)=> !P.stoodInHeld t&&QlH (QiS P d) fs.toList
  | some (.array _ e)=>QiS P d e
  | _=>true
theorem QyW {T:Tys} {d:Nat} {t:TypeId} {a:List SK} (h:shp T d t=some a):∃ y,T t=some y/\a.length=y.size/\(y.kind.agg=false->y.size=1)/\0<y.size:=by
 cases d with
 | zero=>cases h
 | succ d =>
  unfold shp at h;split at h
  .rename_i y hy
   refine ⟨y,hy,?_⟩;split at h<;>rename_i hk
   .split at h
    .rename_i hb;injection h with h;subst h;have hb:=zbq hb;exact ⟨hb.symm,fun _=>hb,by omega⟩
    .cases h
   .split at h
    .rename_i hb;injection h with h;subst h;have hb:=zbq hb;exact ⟨hb.symm,fun _=>hb,by omega⟩
    .cases h
   .split at h
    .rename_i hb;injection h with h;subst h;have hb:=zbq hb;exact ⟨hb.symm,fun _=>hb,by omega⟩
    .cases h
   .split at h
    .split at h
     .rename_i hb;injection h with h;subst h;rw [zba] at hb;exact ⟨zbq hb.1,fun e=>(by rw [hk] at e;cases e),by simpa using hb.2⟩
     .cases h
    .cases h
   .split at h
    .split at h
     .rename_i hb;injection h with h;subst h;rw [zba] at hb;exact ⟨zbq hb.1,fun e=>(by rw [hk] at e;cases e),by simpa using hb.2⟩
     .cases h
    .cases h
   .cases h
  .cases h
theorem Qu9 {P:Program} {T:Tys} (hT:QaU P T) {d:Nat} {sh:TypeId->Option (List SK)} {c:TypeId->Bool} (hd:∀ t a,sh t=some a->c t=true->∃ y,T t=some y/\a.length=y.size/\(y.kind.agg=false->y.size=1)/\0<y.size/\QzT P d t y.kind.agg a)
  {ρ:Nm} {w:World}:∀ (fs:List Field) (o:Nat) (ks:List SK) (l l':List SV) (cs cs':Array Value) (b:Bool),QCn sh o (fs.map fun f=>(f.offset,f.type))=some ks->QlH c fs=true->VSs ρ l cs.toList->VSs ρ l' cs'.toList ->
  QaP ks (l.drop o) (l'.drop o)=some b->(Op.eqFields d cs cs' fs).run P w= .ok b w
 | [],o,ks,l,l',cs,cs',b,h,_,_,_,he=>by
  simp only [List.map_nil,QCn,Option.some.injEq] at h;subst h
  have:b=true:=by
   cases e1:l.drop o<;>cases e2:l'.drop o<;>rw [e1,e2] at he<;>simp [QaP] at he
   first|exact he|exact he.symm
  subst this;simp [Op.eqFields]
 | f::fs,o,ks,l,l',cs,cs',b,h,hc,h1,h2,he=>by
  simp only [List.map_cons] at h;unfold QCn at h;simp only [] at h;split at h
  .rename_i ho
   have ho:=zbq ho;split at h
   .rename_i a ha
    split at h
    .rename_i r hr
     injection h with h;subst h
     unfold QlH at hc;rw [zba,zba] at hc;obtain ⟨⟨hn,gM⟩,hc⟩:=hc;obtain ⟨y,hy,gF,fQ,_,fV⟩:=hd _ _ ha gM;obtain ⟨u,v,g1,g2,rfl⟩:=QcB he;have hL:=Qd3 g1
     have JQ:o+y.size<=l.length:=by
      have:=hL.1;rw [gF] at this;simp at this;omega
     have FY:o+y.size<=l'.length:=by
      have:=hL.2;rw [gF] at this;simp at this;omega
     obtain ⟨p,p1,p2⟩:=QfP (P:=P) hT hy (w:=w) h1 o JQ fQ;obtain ⟨p',p1',p2'⟩:=QfP (P:=P) hT hy (w:=w) h2 o FY fQ;rw [gF] at g1 g2;have hq:=fV ρ w _ _ p p' u p2 p2' g1;have jB:=Qu9 hT hd (w:=w) fs (o+a.length) r l l' cs cs' v hr hc h1 h2 (by rw [gF];simpa [List.drop_drop,Nat.add_comm] using g2);have zY : f.name ≠ "_" := by simpa using hn
     unfold Op.eqFields;rw [zP zY,ho];simp only [Sem.run_bind,p1,p1',Result.andThen_ok,hq];cases u
     .simp
     .simp [jB]
    .cases h
   .cases h
  .cases h
theorem Qu8 {P:Program} {T:Tys} (hT:QaU P T) {d:Nat} {e:TypeId} {a:List SK} {y:Ty} (hy:T e=some y) (gF:a.length=y.size) (fQ:y.kind.agg=false->y.size=1) (uF:0<y.size) (fV:QzT P d e y.kind.agg a)
  {ρ:Nm} {w:World} {l l':List SV} {cs cs':Array Value} (h1:VSs ρ l cs.toList) (h2:VSs ρ l' cs'.toList):∀ (n i:Nat) (b:Bool),QaP (QAc a n) (l.drop (i*y.size)) (l'.drop (i*y.size))=some b ->
   ((
    forIn (List.range' i n) ((none,()):Option Bool × PUnit) fun i r=>do
    if !(<- Op.equalIn d e (<- part e cs (i*y.size)) (<- part e cs' (i*y.size))) then pure (ForInStep.done (some false,())) else pure (ForInStep.yield (none,()))):Sem (Option Bool × PUnit)).run P w= .ok (if b then (none,()) else (some false,())) w
 | 0,i,b,he=>by
  have:b=true:=by
   cases e1:l.drop (i*y.size)<;>cases e2:l'.drop (i*y.size)<;>rw [e1,e2] at he<;>simp [QaP,QAc] at he
   first|exact he|exact he.symm
  subst this;simp
 | n+1,i,b,he=>by
  unfold QAc at he;obtain ⟨u,v,g1,g2,rfl⟩:=QcB he;have hL:=Qd3 g1
  have JQ:i*y.size+y.size<=l.length:=by
   have:=hL.1;rw [gF] at this;simp at this;omega
  have FY:i*y.size+y.size<=l'.length:=by
   have:=hL.2;rw [gF] at this;simp at this;omega
  obtain ⟨p,p1,p2⟩:=QfP (P:=P) hT hy (w:=w) h1 (i*y.size) JQ fQ;obtain ⟨p',p1',p2'⟩:=QfP (P:=P) hT hy (w:=w) h2 (i*y.size) FY fQ;rw [gF] at g1 g2;have hq:=fV ρ w _ _ p p' u p2 p2' g1;have jB:=Qu8 hT hy gF fQ uF fV (w:=w) h1 h2 n (i+1) v (by rw [Nat.succ_mul];simpa [List.drop_drop,Nat.add_comm] using g2);rw [List.range'_succ,List.forIn_cons];simp only [Sem.run_bind,p1,p1',Result.andThen_ok,hq];cases u
  .simp
  .simp only [Bool.not_true,Bool.false_eq_true,if_false,Sem.run_pure,Result.andThen_ok,Bool.true_and]
   exact jB
theorem QvH {P:Program} {T:Tys} (hT:QaU P T):∀ (d d':Nat) (t:TypeId) (a:List SK),shp T d t=some a->QiS P d t=true->d<=d'->∃ y,T t=some y/\a.length=y.size/\(y.kind.agg=false->y.size=1)/\0<y.size/\QzT P d' t y.kind.agg a
 | 0,_,_,_,h,_,_=>by cases h
 | d+1,0,_,_,_,_,h=>by omega
 | d+1,d'+1,t,a,h,hc,jX=>by
  obtain ⟨y,hy,h1,h2,h3⟩:=QyW h;refine ⟨y,hy,h1,h2,h3,?_⟩;have ih:=fun t a h hc=>QvH hT d d' t a h hc (by omega)
  unfold shp at h;rw [hy] at h;simp only [] at h;split at h<;>rename_i hk
  .split at h
   .injection h with h;subst h;rw [hk];exact QsW ((hT t y hy).int hk)
   .cases h
  .split at h
   .injection h with h;subst h;rw [hk];exact Qo6 ((hT t y hy).bool hk)
   .cases h
  .split at h
   .injection h with h;subst h;rw [hk];exact QsX ((hT t y hy).str hk)
   .cases h
  .rename_i fs
   split at h
   .rename_i a' FH
    split at h
    .injection h with h;subst h
     obtain ⟨fields,hu,ZN⟩:=(hT t y hy).struct hk;unfold QiS at hc;rw [hu] at hc;simp only [zba,Bool.not_eq_true'] at hc;rw [hk];rintro ρ w l l' v v' b ⟨cs,rfl,g1⟩ ⟨cs',rfl,g2⟩ he;have GC:P.fieldsOf t=fields:=by unfold Program.fieldsOf;rw [hu]
     rw [run_equalIn_struct w d' t cs cs' (by rw [GC];exact hu) hc.1,GC];refine Qu9 hT (sh:=shp T d) (c:=QiS P d) ih fields.toList 0 _ l l' cs cs' b (by rw [ZN];exact FH) hc.2 g1 g2 ?_;simpa using he
    .cases h
   .cases h
  .rename_i n e
   split at h
   .rename_i a' FH
    split at h
    .injection h with h;subst h
     have hu:=(hT t y hy).arr hk;unfold QiS at hc;rw [hu] at hc;simp only [] at hc;obtain ⟨ye,q1,q2,q3,q5,q4⟩:=ih e a' FH hc;rw [hk];rintro ρ w l l' v v' b ⟨cs,rfl,g1⟩ ⟨cs',rfl,g2⟩ he;have hz:=(hT e ye q1).sizeOf w;have:=Qu8 hT q1 q2 q3 q5 q4 (w:=w) g1 g2 n 0 b (by simpa using he);unfold Op.equalIn;simp only [Sem.run_bind,run_underlying hu,Result.andThen_ok,hz,Std.Legacy.Range.forIn_eq_forIn_range',Std.Legacy.Range.size,Nat.sub_zero,Nat.add_one_sub_one,Nat.add_sub_cancel,Nat.div_one];rw [this];cases b<;>simp
    .cases h
   .cases h
  .cases h
theorem QFg {P:Program} {T:Tys} (hT:QaU P T) {t:TypeId} {y:Ty} {ks:List SK} {l l':List SV} {b:Bool} (hy:T t=some y) (zK:y.kind.agg=true) (hs:shp T 8 t=some ks) (hc:QiS P 8 t=true) (hg:P.eqGuardType P.depth t=false) (he:QaP ks l l'=some b):QAn P t l l' b:=by
 intro ρ w cs cs' x z h1 h2;obtain ⟨_,q1,_,_,_,q4⟩:=QvH hT 8 10000 t ks hs hc (by omega);rw [hy] at q1;injection q1 with q1;subst q1
 rw [zK] at q4;have hr:=q4 ρ w l l' (.agg cs) (.agg cs') b ⟨cs,rfl,h1⟩ ⟨cs',rfl,h2⟩ he;refine ⟨run_eqGuard_agg w .eql t x z cs cs' hg,run_eqGuard_agg w .neq t x z cs cs' hg,?_,?_⟩
 .rw [run_eql_struct,hr];rfl
 .rw [run_neq_struct,hr];rfl
end Go.Proofs.YtflaceijiphfdaaGreat
