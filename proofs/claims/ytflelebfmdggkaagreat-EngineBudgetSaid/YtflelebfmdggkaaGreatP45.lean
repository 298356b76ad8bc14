import Derived.Test.YtflelebfmdggkaaGreatP42
set_option linter.unusedSimpArgs false
set_option linter.unusedVariables false
set_option maxHeartbeats 100000000
set_option maxRecDepth 100000
namespace Go.Proofs.YtflelebfmdggkaaGreat
open Go Go.RowKit
theorem QbV {r:Row} {σ:St} {x v:TV} (hs:Qym v=true) (hr:Qau r.cells=true) (ho:hpG σ.h 0=some r) (e:x=v):Fin [r] (· =⟨v,[],[]⟩) σ x:=by
 subst e;refine Fin.mk ⟨x,[],[]⟩ [(0,some 0)] rfl (QlG hs) ?_ rfl;show HlS _ _ [] ([]++ [(0,some r)]);refine Qaq (Qan rfl ho rfl ?_ (Qaj hr)) QaN;cases r.own<;>rfl
def mpg (n:Nat):Nat:=if n%32=0∧n≤1024 then n / 32 else 0
theorem QbI (xs:List Nat) (n:Nat) (hn:n<4294967296):FN 57 [.s (.sl 0 0 n)] [⟨false,1,wsv xs⟩] (· =⟨.a (.s (.i (mpg n:Nat))),[],[]⟩):=by
 refine fnW Tryz.func57 ?_;exact QA2
def ld4 (n a:Nat):Bool:=decide (a%4=0)&&decide (a+4≤mpg n*128)
theorem QaU (n:Nat):mpg n≤32:=by unfold mpg;split<;>omega
theorem Qd5 {n a:Nat} (h:ld4 n a=true):a / 4<n:=by
 unfold ld4 mpg at h;simp at h;split at h<;>omega
theorem Qhw (xs:List Nat) (n a:Nat) (hn:n<4294967296) (ha:a<4294967296):FN 178 [.s (.sl 0 0 n),.s (.u a),.s (.i 4)] [⟨false,1,wsv xs⟩] (· =⟨.a (.s (.bool (ld4 n a))),[],[]⟩):=by
 have hm:=QaU n;refine fnW Tryz.func178 ?_;(repeat' ((conv=>whnf);first|exact zi0|(refine zj0 ?_;intro hb)|(refine Qae (f:=57) (QbI xs n hn) [⟨0,0⟩] [(0,⟨false,1,wsv xs⟩)] (by first|exact rfl|simp [Qc1,QcJ,Qc5]) ⟨rfl,trivial⟩ (⟨rfl,Qar (Qaa _),trivial⟩) ⟨rfl,Qbq⟩ ?_)|refine zs0 ?_|refine zbb ?_ ?_));all_goals (conv=>whnf)
 all_goals
  refine QbV rfl (Qaa _) rfl ?_;simp only [Qbc];congr 3;have hz:(decide (a%4=0))=decide ((a:Int)%4=0):=by congr 1;apply propext;omega
  have hy:decide ((a:Int)+4≤(mpg n:Nat)*128)=decide (a+4≤mpg n*128):=by congr 1;apply propext;omega
  unfold ld4;rw [hz,← hy];simp only [hb,decide_true,decide_false,Bool.true_and,Bool.false_and]
theorem ldi (a:Nat):0+((a:Int) / 4).toNat * ty24.size=a / 4:=by
 show 0+((a:Int) / 4).toNat * 1=_;omega
theorem QfN (xs:List Nat) (n a:Nat) (hl:xs.length=n) (hn:n<4294967296) (ha:a<4294967296):FN 115 [.s (.sl 0 0 n),.s (.u a),.s (.i 4)] [⟨false,1,wsv xs⟩] (· =⟨.tup [.s (.u (if ld4 n a then xs.getD (a / 4) 0 else 0:Nat)),.s (.bool (ld4 n a))],[],[]⟩):=by
 refine fnW Tryz.func115 ?_;(repeat' ((conv=>whnf);first|exact zi0|(refine zj0 ?_;intro hb)|(refine Qae (f:=178) (Qhw xs n a hn ha) [⟨0,0⟩] [(0,⟨false,1,wsv xs⟩)] (by first|exact rfl|simp [Qc1,QcJ,Qc5]) ⟨rfl,trivial⟩ (⟨rfl,Qar (Qaa _),trivial⟩) ⟨rfl,Qbq⟩ ?_)|(apply Sd.mk; · have:=Qd5 hb;omega)|refine QvS ?_|((with_reducible apply Ge.mk (α:=SV)); · exact Qa0 xs (a / 4) (by rw [hl];exact Qd5 hb))|refine zs0 ?_|refine zbb ?_ ?_));all_goals (conv=>whnf)
 all_goals
  refine QbV rfl (Qaa _) rfl ?_;simp only [Qbc, *,if_true,if_false,Bool.false_eq_true]
  first|done|rfl
theorem Qb9 (xs:List Nat) (n a:Nat) (hl:xs.length=n) (hn:n<4294967296) (ha:a<4294967296) (h:ld4 n a=true):FN 115 [.s (.sl 0 0 n),.s (.u a),.s (.i 4)] [⟨false,1,wsv xs⟩] (· =⟨.tup [.s (.u (xs.getD (a / 4) 0:Nat)),.s (.bool true)],[],[]⟩):=by
 have:=QfN xs n a hl hn ha;rw [h] at this;exact this
end Go.Proofs.YtflelebfmdggkaaGreat
