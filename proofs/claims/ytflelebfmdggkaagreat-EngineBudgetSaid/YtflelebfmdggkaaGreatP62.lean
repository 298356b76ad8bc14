import Derived.Test.YtflelebfmdggkaaGreatP53
set_option linter.unusedSimpArgs false
set_option linter.unusedVariables false
set_option maxHeartbeats 100000000
set_option maxRecDepth 100000
namespace Go.Proofs.YtflelebfmdggkaaGreat
open Go Go.RowKit
theorem QvG (n:Nat):(List.replicate n (SV.int .u32 0)).length=n*ty24.size∧∀ (k:Nat) s,(List.replicate n (SV.int .u32 0))[k]?=some s→ty24.zero[k%ty24.size]?=some s:=by
 refine ⟨by rw [List.length_replicate];show n=n*1;omega,fun k s h=>?_⟩;rw [List.getElem?_replicate] at h;split at h
 ·injection h with h;subst h
  show [SV.int .u32 0][k%1]?=_;rw [Nat.mod_one];rfl
 ·cases h
theorem QsY (xs:List Nat) (n:Nat) (hl:xs.length=n) (hn:n<4294967296):FN 46 [.s (.sl 0 0 n)] [⟨false,1,wsv xs⟩] (· =⟨.a (.s (.sl 1 0 n)),[],[⟨true,1,wsv xs⟩]⟩):=by
 have uP:(wsv xs).length=n:=by simp [hl]
 have fM:Qau (wsv xs)=true:=Qaa xs;have wD:Qas (wsv xs)=true:=QbF xs;have hz:=QvG n;have fC:QaC (List.replicate n (SV.int .u32 0)) 0 (wsv xs)=wsv xs:=QbJ (by rw [uP,List.length_replicate]);have ZU:(List.replicate n (SV.int .u32 0)).length=n:=List.length_replicate;have m1:min n n=n:=Nat.min_self n;generalize List.replicate n (SV.int .u32 0)=Z,wsv xs=M at *;refine fnW Tryz.func46 ?_;(repeat' ((conv=>whnf);first|exact zi0|(refine zj0 ?_;intro hb)|(refine Zs.mk Z hz ?_)|(apply Sk.mk; · exact Qct M (by show M.length=min n n*1;omega) wD)|(apply Sd.mk; · exact ⟨rfl,by show 0+M.length≤Z.length;omega⟩)|refine zq7 ?_|refine zst ?_|refine zbb ?_ ?_))
 all_goals exact QbA
def zer:Nat→List Nat
 | 0=> []
 | n+1=>0::zer n
theorem Qdj:∀ n,(zer n).length=n
 | 0=>rfl
 | n+1=>by show (zer n).length+1=_;rw [Qdj n]
theorem QwZ {xs:List Nat} {a w y:Nat} (h:y∈xs.set a w):y∈xs∨y=w:=by
 exact List.mem_or_eq_of_mem_set h
theorem Qik (xs:List Nat) (a w j:Nat) (ha:a<xs.length):(xs.set a w).getD j 0=if j=a then w else xs.getD j 0:=by
 rw [List.getD_eq_getElem?_getD,List.getD_eq_getElem?_getD,List.getElem?_set]
 by_cases h:a=j
 ·rw [zP h,zP ha,zP h.symm];rfl
 ·rw [zN h,zN (fun e=>h e.symm)]
def XB (xs:List Nat) (n:Nat):Prop:=xs.length=n∧∀ y∈xs,y<4294967296
theorem QDQ {xs:List Nat} {n i w:Nat} (h:XB xs n) (hw:w<4294967296):XB (xs.set i w) n :=
 ⟨by rw [List.length_set];exact h.1,fun y hy=>by rcases QwZ hy with h1|h1;exact h.2 y h1;omega⟩
theorem Qkr:∀ n,wsv (zer n)=List.replicate n (SV.int .u32 0)
 | 0=>rfl
 | n+1=>by
  rw [List.replicate_succ,← Qkr n];rfl
theorem Qyr (k:Nat) (h1:1≤k) (h2:k≤16):FN 29 [.s (.i k)] [] (· =⟨.a (.s (.sl 0 0 (k*32))),[],[⟨true,1,wsv (zer (k*32))⟩]⟩):=by
 rw [Qkr];have hz:=QvG (k*32);have hs:Qau (List.replicate (k*32) (SV.int .u32 0))=true:=by rw [← Qkr];exact Qaa _
 have e1:IntKind.i64.wrap ((k:Int)*32)=((k*32:Nat):Int):=QbP;generalize List.replicate (k*32) (SV.int .u32 0)=Z at *;refine fnW Tryz.func29 ?_;(repeat' ((conv=>whnf);first|exact zi0|(refine zj0 ?_;intro hb)|refine QIa ?_|(refine Zs.mk Z hz ?_)|refine zst ?_|refine zbb ?_ ?_))
 all_goals exact QHT
end Go.Proofs.YtflelebfmdggkaaGreat
