import Derived.Test.YtflelebfmdggkaaGreatP30
set_option linter.unusedSimpArgs false
set_option linter.unusedVariables false
set_option maxHeartbeats 100000000
set_option maxRecDepth 100000
namespace Go.Proofs.YtflelebfmdggkaaGreat
open Go Go.RowKit
theorem Qrg (n:Nat) (h2:n≤31):FN 230 [.s (.i n)] [] (· =⟨.a (.s (.u ((2^n-1:Nat):Int))),[],[]⟩):=by
 have h3:2^n≤2^31:=Nat.pow_le_pow_right (by omega) h2;have h4:0<2^n:=Nat.pow_pos (by omega);rw [show (2:Nat)^31=2147483648 from rfl] at h3;rw [show ((2^n-1:Nat):Int)=((2^n:Nat):Int)-1 by omega];refine fnW Tryz.func230 ?_;(repeat' ((conv=>whnf);first|exact zi0|(refine zj0 ?_;intro hb)|((with_reducible apply Vl.mk (α:=Int)); · exact Qyy n h2)|refine zs0 ?_|refine zbb ?_ ?_));all_goals (conv=>whnf)
 all_goals exact Qam rfl rfl
theorem Qez (x l n:Nat) (hx:x<4294967296) (hl:l≤31) (h2:n≤31):bits BinOp.and IntKind.u32 ((x:Int) / 2^min ((l:Nat):Int).toNat IntKind.u32.bits) ((2^n-1:Nat):Int)=((x / 2^l%2^n:Nat):Int):=by
 have e:min ((l:Nat):Int).toNat IntKind.u32.bits=l:=QFt;rw [e];have e2:((x:Int) / 2^l)=((x / 2^l:Nat):Int):=by simp
 rw [e2];exact Qbm _ n (Nat.lt_of_le_of_lt (Nat.div_le_self _ _) hx) h2
theorem QdP (x l n:Nat) (hx:x<4294967296) (hl:l≤31) (h1:1≤n) (h2:n≤31):FN 179 [.s (.u x),.s (.i l),.s (.i n)] [] (· =⟨.a (.s (.u ((x / 2^l%2^n:Nat):Int))),[],[]⟩):=by
 refine fnW Tryz.func179 ?_;(repeat' ((conv=>whnf);first|exact zi0|(refine zj0 ?_;intro hb)|(refine Qac (f:=230) (Qrg n h2) rfl ?_)|((with_reducible apply Vl.mk (α:=Int)); · exact Qez x l n hx hl h2)|refine zs0 ?_|refine zbb ?_ ?_));all_goals (conv=>whnf)
 all_goals exact Qam rfl rfl
def QBn (x:Nat):Nat:=if x<32768 then x else x+4294901760
theorem QJk (x:Nat) (hx:x<65536):IntKind.u32.wrap ((x:Int)*2^min ((32:Int)-16).toNat IntKind.u32.bits)=(x:Int)*65536:=by
 rw [show (2:Int)^min ((32:Int)-16).toNat IntKind.u32.bits=65536 from rfl];exact QeS (by omega) (by omega)
theorem QJm (x:Nat) (hx:x<65536):IntKind.i32.wrap ((x:Int)*65536)=(if x<32768 then (x:Int) else x-65536)*65536:=by
 unfold IntKind.wrap;simp only [IntKind.signed,IntKind.bits,Bool.true_and,decide_eq_true_eq]
 by_cases h:x<32768
 ·rw [zP h,zN (by simp;omega)];omega
 ·rw [zN h,zP (by simp;omega)];omega
theorem QJ2 (x:Int):x*65536 / 2^min ((32:Int)-16).toNat IntKind.i32.bits=x:=by
 rw [show (2:Int)^min ((32:Int)-16).toNat IntKind.i32.bits=65536 from rfl];omega
theorem QJ0 (x:Nat) (hx:x<65536):IntKind.u32.wrap (if x<32768 then (x:Int) else x-65536)=(QBn x:Nat):=by
 unfold QBn;rw [Qcf]
 by_cases h:x<32768
 ·rw [zP h,zP h];omega
 ·rw [zN h,zN h];omega
theorem Qxj (x:Nat) (hx:x<65536):FN 187 [.s (.u x),.s (.i 16)] [] (· =⟨.a (.s (.u (QBn x:Nat))),[],[]⟩):=by
 refine fnW Tryz.func187 ?_;(repeat' ((conv=>whnf);first|exact zi0|(refine zj0 ?_;intro hb)|((with_reducible apply Vl.mk (α:=Int)); · first|exact QJk x hx|exact QJm x hx|exact QJ2 _|exact QJ0 x hx)|refine zs0 ?_|refine zbb ?_ ?_));all_goals (conv=>whnf)
 all_goals exact Qam rfl rfl
end Go.Proofs.YtflelebfmdggkaaGreat
