import Derived.Test.YtflelebfmdggkaaGreatP139
import Derived.Test.YtflelebfmdggkaaGreatP149
import Derived.Shelf.Strings.Repeat
set_option linter.unusedSimpArgs false
set_option linter.unusedVariables false
set_option maxHeartbeats 100000000
set_option maxRecDepth 100000
namespace Go.Proofs.YtflelebfmdggkaaGreat
open Go Go.RowKit
theorem QCg {P:Program} {f:FuncId} (hE:QvE P f) {s S:ByteArray} {c:Int} (h:∀ w,Calls P f #[.string s,.int .i64 c] w fun e w'=>e= .returned (.string S)/\Below w.heap.size w w') :
  Fn P f [.s (.str s),.s (.int .i64 c)] [] (. =⟨.a (.s (.str S)),[],[]⟩):=⟨hE,fun ρ w vs hd ha hc=>by
 have hv:vs= #[.string s,.int .i64 c]:=by
  obtain ⟨hl,hk⟩:=ha;obtain ⟨v0,e0,g0⟩:=hk 0 _ rfl;obtain ⟨v1,e1,g1⟩:=hk 1 _ rfl;have g0:v0= .string s:=g0;have g1:v1= .int .i64 c:=g1;subst g0 g1;obtain ⟨l⟩:=vs
  match l,hl,e0,e1 with
  | [a,b],_,e0,e1=>injection e0 with e0;injection e1 with e1;rw [e0,e1]
 subst hv;refine (h w).mono ?_;rintro e w' ⟨rfl,hB⟩;have hn:∀ n,(⟨.a (.s (.str S)),[],[]⟩:Res).app [] n=none:=fun n=>by cases n<;>rfl
 refine ⟨_,_,ρ,rfl,rfl,Ext.refl _,fun n _=>hd n (Nat.zero_le _),rfl,⟨(fun n r e=>by rw [hn] at e;cases e),(fun n r m s Ln Lm e=>by rw [hn] at e;cases e),(fun n r L e=>by rw [hn] at e;cases e),hB.os,hB.tape,hB.output,hB.size,fun b hb _=>hB.block b hb,fun L c hf=>?_⟩,fun p hp=>(by cases hp),fun p hp=>(by cases hp),fun p hp=>(by cases hp)⟩;obtain ⟨f1,_,_⟩:=hc.frz L c hf
 exact ⟨f1.of_block (hB.block _ f1.lt),(fun n r Ln e=>by rw [hn] at e;cases e),.inl hf⟩⟩
def QHW:Go.Shelf.Ren:=⟨fun
  | 99=>260
  | 105=>251
  | 165=>261
  | 166=>262
  | 169=>264
  | 170=>263
  | 206=>269
  | 212=>259
  | 240=>270
  | 241=>271
  | 263=>267
  | 264=>268
  | 276=>272
  | 277=>273
  | n=>n,fun
  | 0=>0
  | 3=>3
  | 4=>4
  | 5=>5
  | 9=>9
  | 20=>20
  | 37=>184
  | 46=>93
  | 51=>24
  | 53=>40
  | 70=>314
  | 72=>316
  | 75=>318
  | 76=>319
  | 80=>322
  | 109=>311
  | 127=>326
  | 146=>248
  | 148=>211
  | 164=>327
  | n=>n,fun n=>n⟩
theorem laysR:Lays.n105 Tryz.prog QHW:=by
 constructor<;>first|kernel_rfl|(intro w;kernel_rfl)
theorem QCm:Builder.Extra Tryz.prog QHW:=by
 refine ⟨⟨by kernel_rfl,by kernel_rfl⟩,laysR.t5,laysR.a5,laysR.z5,laysR.v5,by kernel_rfl,by kernel_rfl,by kernel_rfl,by decide⟩
theorem QDO:FN 251 [.s (.str ⟨#[0]⟩),.s (.int .i64 128)] [] (. =⟨.a (.s (.str z128)),[],[]⟩) :=
 QCg ⟨Tryz.f251,Tryz.func251,by kernel_rfl,by kernel_rfl⟩ fun w=>by
  have h:=Any.strings_Repeat laysR QCm ⟨#[0]⟩ 128 w (by decide) (by decide);rw [show (⟨(Lib.repeatL (⟨#[0]⟩:ByteArray).data.toList 128).toArray⟩:ByteArray)=z128 by kernel_rfl] at h;exact h
def oK (l:List SV):Prop:=∃ (a b c:Int) (s:ByteArray),l= [.i a,.w b,.u c,.str s]
theorem QtW {d:Dk} {xs:List Nat} {n:Nat} {p:Int} {v c:Nat} {l:List SV} (h:(Qa6 d xs n p v c).2=some l):oK l:=by
 unfold Qa6 at h;split at h
 .cases h
 split at h
 .cases h
 split at h
 .cases h
 split at h
 .cases h
 split at h
 .split at h
  .cases h
  split at h
  .cases h
  .injection h with h
   subst h;unfold QnQ;split<;>(try split)<;>(try split)<;>exact ⟨_,_,_,_,rfl⟩
 .cases h
theorem Qts {d:Nk} {xs:List Nat} {n:Nat} {p:Int} {v c:Nat} {l:List SV} (h:(Qbk d xs n p v c).2=some l):oK l:=by
 unfold Qbk at h;split at h
 .cases h
 split at h
 .cases h
 split at h
 .cases h
 split at h
 .cases h
 split at h
 .injection h with h
  subst h;exact ⟨_,_,_,_,rfl⟩
 split at h<;>cases h
theorem QCV {M:Mc} {p:Int} {v:Nat} {l:List SV} (h:(Qbz M p v).2=some l):oK l:=by
 unfold Qbz at h;split at h
 .injection h with h
  subst h;exact ⟨_,_,_,_,rfl⟩
 split at h
 .cases h
 split at h
 .cases h
 split at h
 .exact QtW h
 split at h
 .exact Qts h
 .cases h
theorem QAG {M:Mc} {w:Nat} {l:List SV} (h:(Qbh M w).2=some l):oK l:=by
 unfold Qbh at h;split at h
 .cases h
 split at h
 .exact QCV h
 split at h
 .cases h
 split at h<;>cases h
theorem Qvw:∀ {k:Nat} {M M':Mc} {l:List (List SV)},Qkb k M l M'->∀ x∈l,oK x
 | 0,_,_,_,⟨_,h⟩,x,hx=>by subst h;cases hx
 | k+1,M,M',l,⟨M1,o,l',_,_,h3,h4,h5⟩,x,hx=>by
  subst h4;rcases List.mem_append.1 hx with h|h
  .cases o with
   | none=>cases h
   | some y =>
    obtain rfl:x=y:=by simpa using h
    exact QAG (M:=M) (w:=0) (by rw [h3])
  .exact Qvw h5 x h
theorem Qso {os:List (List SV)} (h:∀ x∈os,oK x):Qbn os:=fun x hx=>by
 obtain ⟨a,b,c,s,rfl⟩:=h x hx;exact ⟨rfl,rfl,rfl⟩
def stR:Nat->Mc->List (List SV)->Nat->Mc × List (List SV) × Nat
 | 0,M,os,n=>(M,os,n)
 | k+1,M,os,n=>if Qcv M=true then (M,os,n) else if QfC M=true then (M,os,n) else stR k (Qbh M 0).1 (os++(Qbh M 0).2.toList) (n+1)
theorem Qon:∀ {k:Nat} {M M':Mc} {l:List (List SV)} (os:List (List SV)) (n:Nat),Qkb k M l M'->stR k M os n=(M',os++l,n+k)
 | 0,_,_,_,os,n,⟨h1,h2⟩=>by subst h1 h2;rw [List.append_nil];rfl
 | k+1,M,M',l,os,n,⟨M1,o,l',h1,h2,h3,h4,h5⟩=>by
  unfold stR;rw [h1,h2,zN (by decide),zN (by decide),h3,Qon _ _ h5,h4,List.append_assoc,Nat.add_assoc,Nat.add_comm 1 k]
theorem Qsp:∀ {os:List (List SV)},Qbn os->∀ (i:Nat) (l:List SV),os[i]?=some l->l.length=4/\∀ (j:Nat) s,l[j]?=some s->(OLs os)[i*4+j]?=some s
 | y::os,h,0,l,e=>by
  injection e with e
  subst e;refine ⟨(h _ (List.mem_cons_self ..)).1,fun j s hs=>?_⟩;show (y++OLs os)[0*4+j]?=_;rw [Nat.zero_mul,Nat.zero_add,List.getElem?_append_left (List.getElem?_eq_some_iff.1 hs).1];exact hs
 | y::os,h,i+1,l,e=>by
  obtain ⟨h1,h2⟩:=Qsp (os:=os) (fun x hx=>h x (List.mem_cons_of_mem _ hx)) i l e;refine ⟨h1,fun j s hs=>?_⟩;have h4:=(h y (List.mem_cons_self ..)).1;show (y++OLs os)[(i+1)*4+j]?=_;rw [List.getElem?_append_right (by omega),h4,show (i+1)*4+j-4=i*4+j by omega];exact h2 j s hs
def QEM (N i:Nat) (OL:List SV):St :=
 ⟨[(0,.a (.s (.sl 0 0 N))),(1,.a (.s (.sl 1 0 N))),(5,.a (.s (.i i)))],[(0,some ⟨false,4,OL⟩),(1,some ⟨false,4,OL⟩)],[0]⟩
theorem Qs3 (os:List (List SV)) (N:Nat) (hN:os.length=N) (fP:N<=1000000) (hk:∀ x∈os,oK x) :
  FN 11 [.s (.sl 0 0 N),.s (.sl 1 0 N)] [⟨false,4,OLs os⟩,⟨false,4,OLs os⟩] (. =⟨.a (.s (.bool true)),[],[]⟩):=by
 have gN:=(QaA (Qso hk)).2.1;have jK:=Qsp (Qso hk);generalize OLs os=TT at *;refine fnW Tryz.func11 ?_;(repeat' ((conv=>whnf);first|exact zi2|(refine zj0 ?_;intro hb)|refine zse ?_|refine zbb ?_ ?_));all_goals (conv=>whnf)
 refine Lp.inv (fun mm σ=>∃ i,mm+i=N/\σ=QEM N i TT) ?_ ?_
 .refine ⟨N,QEM N 0 TT,?_,0,by omega,rfl⟩
  (exact zwL [(0,some 0),(1,some 1)])
 .rintro mm σ ⟨i,yY,rfl⟩
  unfold QEM
  by_cases JT:i<N
  .obtain ⟨l,vJ⟩:∃ m,os[i]?=some m:=⟨os[i]'(by omega),List.getElem?_eq_getElem (by omega)⟩
   have seg:=jK i _ vJ;obtain ⟨a,b,c,s,rfl⟩:=hk _ (List.mem_of_getElem? vJ);(repeat' ((conv=>whnf);first|exact zi2|(refine zj0 ?_;intro hb)|refine Qfl ?_|refine zse ?_|refine zbb ?_ ?_));all_goals (conv=>whnf)
   all_goals first
    | (exfalso;simp [QbR] at hb;done)
    | (
      refine ⟨mm-1,QEM N (i+1) TT,by omega,?_,i+1,by omega,rfl⟩
      (exact zwL [(0,some 0),(1,some 1)]))
  ·(repeat' ((conv=>whnf);first|exact zi0|(refine zj0 ?_;intro hb)|refine zst ?_|refine zbb ?_ ?_));all_goals (conv=>whnf)
   all_goals exact QdV
noncomputable def bdP:Code:=(lpB (Tryz.f9.body.getD .skip)).getD 0 .skip
def Qcm (k ol n:Nat) (A0 MC Z X OL:List SV):St :=
 ⟨[(1,.a (.s (.w k))),(2,.a (.s (.ptr 1 0))),(4,.a (.s (.ptr 2 0))),(7,.a (.s (.sl 4 0 ol))),(8,.a (.s (.w n)))],
  [(0,some ⟨false,1,A0⟩),(1,some ⟨true,1,MC⟩),(2,some ⟨true,1,Z⟩),(3,some ⟨true,1,X⟩),(4,some ⟨true,4,OL⟩)],[0]⟩
theorem QGg (k n:Nat) (hk:k<=4000) (A0 Z:List SV) (hA0:Qau A0=true) (uZ:Qau Z=true) (M:Mc) (hM:M.ok) (os:List (List SV)) (qX:Qbn os) (jH:os.length<=n) (K:Exit->St->Prop) (hn:¬ n<k) (hB:∀ σ1,Wk Tryz.f9.ntmps 1 σ1 (Qcm k os.length n A0 (M.C 3) Z (wsv M.m) (OLs os))->K (.exit 0) σ1) :
  vc Tryz.prog tys Tryz.f9.ntmps 1 bdP (Qcm k os.length n A0 (M.C 3) Z (wsv M.m) (OLs os)) K:=by
 obtain ⟨vY,_,_⟩:=QaA qX;have ZE:=Qaa M.m;have qs:=QcS M hM;have qr:=QcL M hM;have uD:=hM.x;have uQ:=hM.c;exact QHz
theorem QHc (k n:Nat) (hk:k<=4000) (A0 Z:List SV) (hA0:Qau A0=true) (uZ:Qau Z=true) (M:Mc) (hM:M.ok) (os:List (List SV)) (qX:Qbn os) (jH:os.length<=n) (K:Exit->St->Prop) (hn:n<k) (h1:Qcv M=true) (hB:∀ σ1,Wk Tryz.f9.ntmps 1 σ1 (Qcm k os.length n A0 (M.C 3) Z (wsv M.m) (OLs os))->K (.exit 0) σ1) :
  vc Tryz.prog tys Tryz.f9.ntmps 1 bdP (Qcm k os.length n A0 (M.C 3) Z (wsv M.m) (OLs os)) K:=by
 obtain ⟨vY,_,_⟩:=QaA qX;have ZE:=Qaa M.m;have qs:=QcS M hM;have qr:=QcL M hM;have uD:=hM.x;have uQ:=hM.c;rw [h1] at qs;clear h1;exact QHz
theorem QGK (k n:Nat) (hk:k<=4000) (A0 Z:List SV) (hA0:Qau A0=true) (uZ:Qau Z=true) (M:Mc) (hM:M.ok) (os:List (List SV)) (qX:Qbn os) (jH:os.length<=n) (K:Exit->St->Prop) (hn:n<k) (h1:Qcv M=false) (h2:QfC M=true) (hB:∀ σ1,Wk Tryz.f9.ntmps 1 σ1 (Qcm k os.length n A0 (M.C 3) Z (wsv M.m) (OLs os))->K (.exit 0) σ1) :
  vc Tryz.prog tys Tryz.f9.ntmps 1 bdP (Qcm k os.length n A0 (M.C 3) Z (wsv M.m) (OLs os)) K:=by
 obtain ⟨vY,_,_⟩:=QaA qX;have ZE:=Qaa M.m;have qs:=QcS M hM;have qr:=QcL M hM;have uD:=hM.x;have uQ:=hM.c;rw [h1] at qs;rw [h2] at qr;clear h1 h2;exact QHz
theorem QG9 (k n:Nat) (hk:k<=4000) (A0 Z:List SV) (hA0:Qau A0=true) (uZ:Qau Z=true) (M:Mc) (hM:M.ok) (os:List (List SV)) (qX:Qbn os) (jH:os.length<=n) (K:Exit->St->Prop) (hn:n<k) (h1:Qcv M=false) (h2:QfC M=false)  (hO:(Qbh M 0).2=none) (hN:∀ σ1,Wk Tryz.f9.ntmps 1 σ1 (Qcm k (os++(Qbh M 0).2.toList).length (n+1) A0 ((Qbh M 0).1.C 3) Z (wsv (Qbh M 0).1.m) (OLs (os++(Qbh M 0).2.toList)))->K .normal σ1) :
  vc Tryz.prog tys Tryz.f9.ntmps 1 bdP (Qcm k os.length n A0 (M.C 3) Z (wsv M.m) (OLs os)) K:=by
 obtain ⟨vY,_,_⟩:=QaA qX;have ZE:=Qaa M.m;have qs:=QcS M hM;have qr:=QcL M hM;have uD:=hM.x;have uQ:=hM.c;rw [h1] at qs;rw [h2] at qr;clear h1 h2;have qa:=Qim M hM 0 (by decide);have hak:=Qed M hM 0 (by decide);have gZ:=QeR M hM 0;have q2:IntKind.u64.wrap ((n:Int)+1)=((n+1:Nat):Int):=Qe5;rw [hO] at qa hN;generalize (Qbh M 0).1=M3 at *;have fH:=Qaa M3.m;have ZW:=hak.x;have ZX:=hak.c;dsimp only [Option.toList,oS,oR] at *;clear hM qX hak hO;rw [List.append_nil] at hN;replace vY:(OLs os).length=os.length*ty80.size:=vY;generalize OLs os=OL,os.length=ol,wsv M.m=Xe,wsv M3.m=Xg at *;obtain ⟨_,_,_,me,_,_,_,_,de,ne⟩:=M;dsimp only at *;cases zC16 uD;cases zC8 uQ;cases de;cases ne;obtain ⟨_,_,_,mg,_,_,_,_,dg,ng⟩:=M3;dsimp only at *;cases zC16 ZW;cases zC8 ZX;cases dg;cases ng;unfold Qcm;unfold Qcm at hN;simp only [Qah,zca,zna,Mc.C,Mc.D,Dk.C,Nk.C] at *;generalize mg.length=nn3,me.length=nn1 at *;subst gZ;(repeat' ((conv=>whnf);first|exact zi4|(refine zj4 ?_;intro hb)|refine Qhr ?_|refine Qz2 ?_|refine QIt ?_|(refine QaD qs ?_)|(refine QaD qr ?_)|(refine Qlw qa ?_)|refine zse ?_|refine zbb ?_ ?_))
 all_goals exact QCI
theorem QGq (k n:Nat) (hk:k<=4000) (A0 Z:List SV) (hA0:Qau A0=true) (uZ:Qau Z=true) (M:Mc) (hM:M.ok) (os:List (List SV)) (qX:Qbn os) (jH:os.length<=n) (K:Exit->St->Prop) (hn:n<k) (h1:Qcv M=false) (h2:QfC M=false) (l:List SV) (hO:(Qbh M 0).2=some l) (hN:∀ σ1,Wk Tryz.f9.ntmps 1 σ1 (Qcm k (os++(Qbh M 0).2.toList).length (n+1) A0 ((Qbh M 0).1.C 3) Z (wsv (Qbh M 0).1.m) (OLs (os++(Qbh M 0).2.toList)))->K .normal σ1) :
  vc Tryz.prog tys Tryz.f9.ntmps 1 bdP (Qcm k os.length n A0 (M.C 3) Z (wsv M.m) (OLs os)) K:=by
 obtain ⟨vY,HY,_⟩:=QaA qX;have ZE:=Qaa M.m;have qs:=QcS M hM;have qr:=QcL M hM;have uD:=hM.x;have uQ:=hM.c;rw [h1] at qs;rw [h2] at qr;clear h1 h2;have qa:=Qim M hM 0 (by decide);have hak:=Qed M hM 0 (by decide);have gZ:=QeR M hM 0;have q2:IntKind.u64.wrap ((n:Int)+1)=((n+1:Nat):Int):=Qe5;obtain ⟨wQ,HU,wR⟩:=Qew M 0 l hO;have hOa:=Qla os l;have wF:(os++ [l]).length=os.length+1:=by simp
 rw [hO] at qa hN;generalize (Qbh M 0).1=M3 at *;have fH:=Qaa M3.m;have ZW:=hak.x;have ZX:=hak.c;dsimp only [Option.toList,oS,oR] at *;clear hM qX hak hO;rw [wF,hOa] at hN;have JE:Qau (OLs os++l)=true:=QaX HY HU;obtain ⟨_,zZ⟩:∃ L,OLs os++l=L:=⟨_,rfl⟩;rw [zZ] at hN JE;clear hOa wF;replace vY:(OLs os).length=os.length*ty80.size:=vY;generalize OLs os=OL,os.length=ol,wsv M.m=Xe,wsv M3.m=Xg at *;obtain ⟨_,_,_,me,_,_,_,_,de,ne⟩:=M;dsimp only at *;cases zC16 uD;cases zC8 uQ;cases de;cases ne;obtain ⟨_,_,_,mg,_,_,_,_,dg,ng⟩:=M3;dsimp only at *;cases zC16 ZW;cases zC8 ZX;cases dg;cases ng;unfold Qcm;unfold Qcm at hN;simp only [Qah,zca,zna,Mc.C,Mc.D,Dk.C,Nk.C] at *;generalize mg.length=nn3,me.length=nn1 at *;subst gZ;(repeat' ((conv=>whnf);first|exact zi4|(refine zj4 ?_;intro hb)|refine Qhr ?_|refine Qz2 ?_|(apply Sk.mk; . exact Qct l wQ wR)|((with_reducible apply Vl.mk (α:=List SV)); . with_reducible exact zZ)|(refine QaD qs ?_)|(refine QaD qr ?_)|(refine Qlw qa ?_)|refine zse ?_|refine zbb ?_ ?_))
 all_goals exact QCI
theorem Qv0:∀ {k:Nat} {M:Mc} {os:List (List SV)} {n:Nat},M.ok->Qbn os->(stR k M os n).1.ok/\Qbn (stR k M os n).2.1
 | 0,_,_,_,h,h'=>⟨h,h'⟩
 | k+1,M,os,n,h,h'=>by
  unfold stR;split
  .exact ⟨h,h'⟩
  split
  .exact ⟨h,h'⟩
  .exact Qv0 (Qed M h 0 (by decide)) (QcU h' (Qew M 0))
theorem QsE (M:Mc) (hM:M.ok) (k:Nat) (hk:k<=4000):FN 9 [.agg (M.C 0),.s (.w k)] [⟨false,1,wsv M.m⟩]
  (. =⟨.tup [.agg ((stR k M [] 0).1.C 1),.s (.sl 2 0 (stR k M [] 0).2.1.length),.s (.w ((stR k M [] 0).2.2:Nat))],[],[⟨true,1,wsv (stR k M [] 0).1.m⟩,⟨true,4,OLs (stR k M [] 0).2.1⟩]⟩):=by
 have q0:=QvR M hM;have vO:=Qaa M.m;obtain ⟨hRM,ZN⟩:=Qv0 (k:=k) (n:=0) hM (show Qbn [] from fun l h=>by cases h);obtain ⟨R,hR⟩:∃ R,stR k M [] 0=R:=⟨_,rfl⟩;rw [hR] at hRM ZN |-;obtain ⟨Mz,oz,nz⟩:=R;dsimp only at hRM ZN |-;obtain ⟨MS,uE⟩:∃ r:Mc,r=M:=⟨_,rfl⟩;rw [<- uE] at hR;have hM0:MS.ok:=by rw [uE];exact hM
 obtain ⟨A0,hA0⟩:∃ A,A=wsv M.m:=⟨_,rfl⟩;rw [<- hA0] at q0 vO |-;have GD:=hM.x;have qM:=hM.c;have hxz:=hRM.x;have KP:=hRM.c;have fZ:=Qaa Mz.m;obtain ⟨_,_,yO⟩:=QaA ZN;clear hM hRM ZN;obtain ⟨_,_,_,ma,_,_,_,_,da,na⟩:=M;dsimp only at *;cases zC16 GD;cases zC8 qM;cases da;cases na;simp only [Qah,zca,zna,Mc.C,Mc.D,Dk.C,Nk.C] at q0 |-;generalize gJ:ma.length=nn at *;obtain ⟨Z,hZ⟩:∃ Z,Z41=Z:=⟨_,rfl⟩;have VH:Z.length=49:=by rw [<- hZ];rfl
 have uZ:Qau Z=true:=by rw [<- hZ];rfl
 refine fnW Tryz.func9 ?_;(repeat' ((conv=>whnf);first|exact zi4|(refine zj4 ?_;intro hb)|(refine QaD q0 ?_)|refine zse ?_|refine zbb ?_ ?_));all_goals (conv=>whnf)
 refine QkS (x:=vc Tryz.prog tys Tryz.f9.ntmps 1 bdP) (by kernel_rfl) ?_;refine Qr8 (fun mm σ=>∃ (M:Mc) (os:List (List SV)) (n:Nat),mm=k-n/\n<=k/\M.ok/\Qbn os/\os.length<=n/\stR (k-n) M os n=(Mz,oz,nz)/\σ=Qcm k os.length n A0 (M.C 3) Z (wsv M.m) (OLs os)) (Qcm k oz.length nz A0 (Mz.C 3) Z (wsv Mz.m) (OLs oz)) 0 ?_ ?_ ?_
 .refine ⟨k,Qcm k 0 0 A0 (MS.C 3) Z (wsv MS.m) [],?_,MS,[],0,rfl,Nat.zero_le _,hM0,(fun l h=>by cases h),Nat.zero_le _,hR,rfl⟩
  rw [uE];rw [<- hA0,<- hZ];unfold Qcm Z41;simp only [Qah,zca,zna,Mc.C,Mc.D,Dk.C,Nk.C,gJ]
  (exact zwL [(0,some 0),(1,some 65536),(2,some 65600),(3,some 131136),(4,none)])
 .rintro mm σ ⟨M,os,n,zA,gD,hM,qX,jH,gW,rfl⟩ K hB hN
  have UV:∀ {M':Mc} {os':List (List SV)} {n':Nat},(M',os',n')=(Mz,oz,nz)->Qcm k os'.length n' A0 (M'.C 3) Z (wsv M'.m) (OLs os')=Qcm k oz.length nz A0 (Mz.C 3) Z (wsv Mz.m) (OLs oz):=fun e=>by injection e with e1 e2;injection e2 with e2 e3;subst e1 e2 e3;rfl
  by_cases hn:n<k
  .obtain ⟨j,hj⟩:∃ j,k-n=j+1:=⟨k-n-1,by omega⟩
   rw [hj] at gW;unfold stR at gW
   cases h1:Qcv M with
   | true =>
    rw [zP h1] at gW;rw [<- UV gW] at hB;exact QHc k n hk A0 Z vO uZ M hM os qX jH K hn h1 hB
   | false =>
    rw [zN (by rw [h1];decide)] at gW
    cases h2:QfC M with
    | true =>
     rw [zP h2] at gW;rw [<- UV gW] at hB;exact QGK k n hk A0 Z vO uZ M hM os qX jH K hn h1 h2 hB
    | false =>
     rw [zN (by rw [h2];decide)] at gW;have ZJ:k-(n+1)=j:=by omega
     rw [<- ZJ] at gW;have VR:=fun σ1 h=>hN (mm-1) _ σ1 (by omega) h ⟨(Qbh M 0).1,os++(Qbh M 0).2.toList,n+1,by omega,by omega,Qed M hM 0 (by decide),QcU qX (Qew M 0),by cases h:(Qbh M 0).2<;>simp [Option.toList]<;>omega,gW,rfl⟩
     cases hO:(Qbh M 0).2 with
     | none=>exact QG9 k n hk A0 Z vO uZ M hM os qX jH K hn h1 h2 hO VR
     | some l=>exact QGq k n hk A0 Z vO uZ M hM os qX jH K hn h1 h2 l hO VR
  .rw [show k-n=0 by omega] at gW
   rw [<- UV gW] at hB;exact QGg k n hk A0 Z vO uZ M hM os qX jH K hn hB
 .clear hR uE hM0 hA0 q0 hZ
  generalize OLs oz=OL,oz.length=ol,wsv Mz.m=Xz at *;obtain ⟨_,_,_,mz,_,_,_,_,dz,nz⟩:=Mz;dsimp only at *;cases zC16 hxz;cases zC8 KP;cases dz;cases nz;unfold Qcm;simp only [Qah,zca,zna,Mc.C,Mc.D,Dk.C,Nk.C] at *;generalize mz.length=nn1 at *;(repeat' ((conv=>whnf);first|exact zi4|(refine zj4 ?_;intro hb)|refine QGi ?_|refine QHt ?_|refine zse ?_|refine zbb ?_ ?_))
  all_goals exact Qud
theorem QsI (M:Mc) (hM:M.ok):FN 10 [.agg (M.C 0),.agg (M.C 1)] [⟨false,1,wsv M.m⟩,⟨false,1,wsv M.m⟩] (. =⟨.a (.s (.bool true)),[],[]⟩):=by
 have GU:=QwD M.m _ rfl (by have:=hM.ml;omega);have gL:=Qaa M.m;have k1:=Qtw M.x M.pc M.c hM.x hM.c;obtain ⟨hx,hc,hY,gA,_,gB,_,gE,gD,gF⟩:=hM;obtain ⟨x,pc,c,m,_,_,_,_,d,n⟩:=M;dsimp only at *;cases zC16 hx;cases zC8 hc;cases d;cases n;dsimp only [Mc.C,Mc.D,Dk.C,Nk.C,Dk.ok,Nk.ok] at *;simp only [Qah] at k1;generalize m.length=nn,wsv m=XX at *;clear hY gA gE gD gB gF;refine fnW Tryz.func10 ?_;(repeat' ((conv=>whnf);first|exact zi2|(refine zj0 ?_;intro hb)|(refine Eqs.mk true (QiE _ QEW rfl _ _ _ (by with_reducible exact k1)) ?_)|(refine QhF GU ?_)|refine zse ?_|refine zbb ?_ ?_));all_goals (conv=>whnf)
 all_goals clear GU k1
 all_goals first|(exfalso;simp_all [QbR];done)|(refine QcP ?_ ?_;(focus (exact QdV));simp [QbR];done)
end Go.Proofs.YtflelebfmdggkaaGreat
