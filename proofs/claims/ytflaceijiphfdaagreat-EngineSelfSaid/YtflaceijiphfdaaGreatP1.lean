import Derived.WalkKit
import Derived.WalkSpells
import Derived.WalkLawsBesides
import Derived.Deep.Draws
import Derived.BigQuiet
import Derived.Lib.Hide
import Derived.WideShapes
import Derived.OpenShut
set_option linter.unusedSimpArgs false
set_option linter.unusedVariables false
set_option maxHeartbeats 0
set_option maxRecDepth 100000
namespace Go.Proofs.YtflaceijiphfdaaGreat
open Go.RowKit
def ws (xs:List Nat):List Value:=xs.map fun (x:Nat)=> .int .u32 x
def ys (xs:List Nat):List Value:=xs.map fun (x:Nat)=> .int .u8 x
def zs (xs:List Int):List Value:=xs.map fun (x:Int)=> .int .i64 x
@[simp] theorem ws_length (xs:List Nat):(ws xs).length=xs.length:=by simp [ws]
@[simp] theorem ys_length (xs:List Nat):(ys xs).length=xs.length:=by simp [ys]
@[simp] theorem zs_length (xs:List Int):(zs xs).length=xs.length:=by simp [zs]
def Wd (xs:List Nat):Prop:=∀ x∈xs,x<4294967296
theorem Wd.set {xs:List Nat} (h:Wd xs) (k x:Nat) (hx:x<4294967296):Wd (xs.set k x):=fun y hy=>by
 rcases List.mem_or_eq_of_mem_set hy with h1|h1
 .exact h y h1
 .omega
def Rd (w:World) (B:Nat) (A:Option Addr) (cs:List Value):Prop :=
 0<cs.length->∃ b off,A=some ⟨b,off,none⟩/\b<B/\∀ j,j<cs.length->w.cell? ⟨b,off+j,none⟩=cs[j]?
section
variable {w w':World} {B B' C:Nat} {A:Option Addr} {cs:List Value}
theorem Rd.nil:Rd w B A []:=fun h=>absurd h (by simp)
theorem Rd.keep (h:Rd w B A cs) (hk:∀ p:Addr,p.block<B->w'.cell? p=w.cell? p):Rd w' B A cs:=fun hn=>by
 obtain ⟨b,off,e,hb,hc⟩:=h hn;exact ⟨b,off,e,hb,fun j hj=>(hk _ hb).trans (hc j hj)⟩
theorem Rd.alloc (h:Rd w B A cs) (hB:B<=w.heap.size) (o:Obj):Rd (w.alloc o) B A cs:=h.keep fun p hp=>World.cell?_alloc_lt w o p (by omega)
theorem Rd.part (h:Rd w B A cs) (k n c:Nat) (hk:k+n<=cs.length) (hc:cs.length<=c):Rd w B (if c=k then A else A.map (·.add k)) ((cs.drop k).take n):=fun hn=>by
 have hl:((cs.drop k).take n).length=n:=by simp;omega
 rw [hl] at hn;obtain ⟨b,off,rfl,hb,_⟩:=h (by omega);rw [if_neg (by omega)];refine ⟨b,off+k,?_,hb,fun j hj=>?_⟩
 .by_cases hk0:k=0
  .simp [hk0,Addr.add]
  .simp [Addr.add,hk0]
 .grind
end
section
variable {w w':World} {B C:Nat} {e:TypeId} {s n c:Nat} {A:Option Addr} {v:Value} {cs:List Value}
end
theorem Rd.new (w:World) (cs:List Value) (t:TypeId) (fr:Nat × Nat):Rd (w.alloc (.cells cs.toArray t fr)) (w.heap.size+1) (some ⟨w.heap.size,0,none⟩) cs:=fun _ =>
 ⟨w.heap.size,0,rfl,Nat.lt_succ_self _,fun j _=>by rw [Nat.zero_add,World.cell?_alloc_mark];simp⟩
end Go.Proofs.YtflaceijiphfdaaGreat
namespace Go.Proofs.YtflaceijiphfdaaGreat
open Go.RowKit
theorem Qwh {w:World} {a:Addr} {v:Value} (h:w.cell? a=some v):a.block<w.heap.size:=by
 rcases Nat.lt_or_ge a.block w.heap.size with h1|h1
 .exact h1
 .simp [World.cell?,Array.getElem?_eq_none h1] at h
def RowIn (k:IntKind) (w:World) (a:Option Addr) (len cap:Nat) (zs:List Int):Prop :=
 (a=none/\len=0/\cap=0/\zs= []) \/
 ∃ x,a=some x/\len<=cap/\cap<=maxLen/\zs.length=cap/\(∀ i,i<zs.length->w.cell? (x.add i)=some (.int k (zs.getD i 0)))/\∀ n∈zs,(Lit.int k n).wf=true
theorem RowIn.rd {k:IntKind} {w:World} {a:Option Addr} {len cap:Nat} {us:List Int} (h:RowIn k w a len cap us) :
  (us.take len).length=len/\Rd w w.heap.size a ((us.take len).map fun (x:Int)=> .int k x)/\∀ n∈us.take len,(Lit.int k n).wf=true:=by
 rcases h with ⟨rfl,rfl,rfl,rfl⟩|⟨x,rfl,hl,_,hz,hc,hw⟩
 .exact ⟨rfl,Rd.nil,fun n hn=>by simp at hn⟩
 .have gF:(us.take len).length=len:=by simp;omega
  refine ⟨gF,fun hn=>?_,fun n hn=>hw n (List.mem_of_mem_take hn)⟩;rw [List.length_map,gF] at hn;have h0:=hc 0 (by omega);obtain ⟨b,off,spot⟩:=x;have hs:spot=none:=by simpa [Addr.add] using World.cell?_spot h0
  subst hs;refine ⟨b,off,rfl,Qwh h0,fun j hj=>?_⟩;rw [List.length_map,gF] at hj;have:=hc j (by omega);rw [show (⟨b,off,none⟩:Addr).add j=⟨b,off+j,none⟩ by by_cases h:j=0<;>simp [Addr.add,h]] at this;rw [this];have hju:j<us.length:=by omega
  simp [hj,hju]
theorem RowIn.cap {k:IntKind} {w:World} {a:Option Addr} {len cap:Nat} {us:List Int} (h:RowIn k w a len cap us):len<=cap:=by
 rcases h with ⟨_,rfl,rfl,_⟩|⟨x,_,hl,_⟩<;>omega
theorem wf_u64 {n:Int} (h:(Lit.int .u64 n).wf=true):∃ m:Nat,n=m/\m<18446744073709551616:=by
 simp [Lit.wf,IntKind.min,IntKind.max,IntKind.signed,IntKind.bits] at h;exact ⟨n.toNat,by omega,by omega⟩
end Go.Proofs.YtflaceijiphfdaaGreat
