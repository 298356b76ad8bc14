import Derived.Test.YtflaceijiphfdaaGreatP3
import Derived.Test.YtflaceijiphfdaaGreatP8
set_option linter.unusedSimpArgs false
set_option linter.unusedVariables false
set_option maxHeartbeats 0
set_option maxRecDepth 100000
namespace Go.Proofs.YtflaceijiphfdaaGreat
open Go Go.RowKit
theorem Qqm (n:Nat) (h2:n<=31):FN 223 [.s (.i n)] [] (. =⟨.a (.s (.u ((2^n-1:Nat):Int))),[],[]⟩):=by
 have h3:2^n<=2^31:=Nat.pow_le_pow_right (by omega) h2;have h4:0<2^n:=Nat.pow_pos (by omega);rw [show (2:Nat)^31=2147483648 from rfl] at h3;rw [show ((2^n-1:Nat):Int)=((2^n:Nat):Int)-1 by omega];refine fnW Tryz.func223 ?_;(conv=>whnf);(repeat' ((first|exact zi0|refine zj0 fun hb=>?_|((with_reducible apply Vl.mk (α:=Int)); . exact QyV n h2)|refine zs0 ?_|refine zbb ?_ ?_)<;>conv=>whnf))
 all_goals exact Qam rfl rfl
theorem Qex (x l n:Nat) (hx:ZU x) (hl:l<=31) (h2:n<=31):bits BinOp.and IntKind.u32 ((x:Int) / 2^min ((l:Nat):Int).toNat IntKind.u32.bits) ((2^n-1:Nat):Int)=((x / 2^l%2^n:Nat):Int):=by
 have e:min ((l:Nat):Int).toNat IntKind.u32.bits=l:=QuI;rw [e];have e2:((x:Int) / 2^l)=((x / 2^l:Nat):Int):=by simp
 rw [e2];exact QaS _ n (Nat.lt_of_le_of_lt (Nat.div_le_self _ _) hx) h2
theorem Qdz (x l n:Nat) (hx:ZU x) (hl:l<=31) (h1:1<=n) (h2:n<=31):FN 172 [.s (.u x),.s (.i l),.s (.i n)] [] (. =⟨.a (.s (.u ((x / 2^l%2^n:Nat):Int))),[],[]⟩):=by
 refine fnW Tryz.func172 ?_;(conv=>whnf);(repeat' ((first|exact zi0|refine zj0 fun hb=>?_|(refine Qac (f:=223) (Qqm n h2) rfl ?_)|((with_reducible apply Vl.mk (α:=Int)); . exact Qex x l n hx hl h2)|refine zs0 ?_|refine zbb ?_ ?_)<;>conv=>whnf))
 all_goals exact Qam rfl rfl
def QCr (x:Nat):Nat:=if x<32768 then x else x+4294901760
theorem QIf (x:Nat) (hx:x<65536):IntKind.u32.wrap ((x:Int)*2^min ((32:Int)-16).toNat IntKind.u32.bits)=(x:Int)*65536:=by
 rw [show (2:Int)^min ((32:Int)-16).toNat IntKind.u32.bits=65536 from rfl];exact QeO (by omega) (by omega)
theorem QIg (x:Nat) (hx:x<65536):IntKind.i32.wrap ((x:Int)*65536)=(if x<32768 then (x:Int) else x-65536)*65536:=by
 unfold IntKind.wrap;simp only [IntKind.signed,IntKind.bits,Bool.true_and,zde]
 by_cases h:x<32768
 .rw [zP h,zN (by simp;omega)];omega
 .rw [zN h,zP (by simp;omega)];omega
theorem QIh (x:Int):x*65536 / 2^min ((32:Int)-16).toNat IntKind.i32.bits=x:=by
 rw [show (2:Int)^min ((32:Int)-16).toNat IntKind.i32.bits=65536 from rfl];omega
theorem QIi (x:Nat) (hx:x<65536):IntKind.u32.wrap (if x<32768 then (x:Int) else x-65536)=(QCr x:Nat):=by
 unfold QCr;rw [Qce]
 by_cases h:x<32768
 .rw [zP h,zP h];omega
 .rw [zN h,zN h];omega
theorem Qy7 (x:Nat) (hx:x<65536):FN 180 [.s (.u x),.s (.i 16)] [] (. =⟨.a (.s (.u (QCr x:Nat))),[],[]⟩):=by
 refine fnW Tryz.func180 ?_;(conv=>whnf);(repeat' ((first|exact zi0|refine zj0 fun hb=>?_|((with_reducible apply Vl.mk (α:=Int)); . first|exact QIf x hx|exact QIg x hx|exact QIh _|exact QIi x hx)|refine zs0 ?_|refine zbb ?_ ?_)<;>conv=>whnf))
 all_goals exact Qam rfl rfl
def QrX (o:Int):Bool:=decide (1<=o/\o<=13\/16<=o/\o<=24\/32<=o/\o<=36\/40<=o/\o<=45\/o=48\/o=49\/58<=o/\o<=61)
def Qzf (o:Int):Bool:=decide (1<=o/\o<=13\/16<=o/\o<=23\/32<=o/\o<=36\/40<=o/\o<=45\/o=49)
def QrY (o:Int):Bool:=decide (1<=o/\o<=13)
def QEG (o:Int):Bool:=decide (o=16\/o=23\/32<=o/\o<=36\/40<=o/\o<=45\/o=48\/o=49)
def QgS (o:Int):Int:=if QEG o then -32768 else 0
def Qg5 (o:Int):Int:=if QEG o then 32767 else if o=17\/o=18\/o=19\/o=24 then 65535 else if o=20\/o=21\/o=22 then 31 else if o=58\/o=59 then 7 else if o=60\/o=61 then 11 else 0
def QcP (o:Int):Bool:=QrX o||decide (o=56\/o=57\/62<=o/\o<=64)
theorem QvM (o:Int):FN 179 [.s (.i o)] [] (. =⟨.tup [.agg [.bool (QrX o),.bool (Qzf o),.bool (QrY o),.int .i32 (QgS o),.int .i32 (Qg5 o)],.s (.bool (QcP o))],[],[]⟩):=by
 refine fnW Tryz.func179 ?_;(conv=>whnf);(repeat' ((first|exact zi0|refine zj0 fun hb=>?_|refine zs0 ?_|refine zbb ?_ ?_)<;>conv=>whnf))
 all_goals first
  | (subst hb;exact Qam rfl rfl)
  | (
    have h:QrX o=false/\Qzf o=false/\QrY o=false/\QEG o=false/\QcP o=false/\Qg5 o=0:=by
     simp only [QrX,Qzf,QrY,QcP,QEG,Qg5];refine ⟨?_,?_,?_,?_,?_,?_⟩<;>simp<;>omega
    refine Qam rfl ?_;simp only [QgS,h]
    rfl)
def QgD (o:Int):Bool:=decide (57<=o/\o<=64)
theorem QqU (o:Int):FN 181 [.s (.i o)] [] (. =⟨.a (.s (.bool (QgD o))),[],[]⟩):=by
 refine fnW Tryz.func181 ?_;(conv=>whnf);(repeat' ((first|exact zi0|refine zj0 fun hb=>?_|refine zs0 ?_|refine zbb ?_ ?_)<;>conv=>whnf))
 all_goals (refine Qam rfl ?_;simp only [Qba];congr 3;first|(subst hb;rfl)|(simp only [QgD];simp;omega))
def Qmf (r:Int) (u:Bool):Bool:=match u with
 | true=>decide (0<=r)&&decide (r<=15)
 | false=>r==0
theorem QB5 (r:Int) (u:Bool):FN 182 [.s (.i r),.s (.bool u)] [] (. =⟨.a (.s (.bool (Qmf r u))),[],[]⟩):=by
 refine fnW Tryz.func182 ?_;(conv=>whnf);(repeat' ((first|exact zi0|refine zj0 fun hb=>?_|refine zs0 ?_|refine zbb ?_ ?_)<;>conv=>whnf))
 all_goals (refine Qam rfl ?_;simp only [Qba];congr 3;(try subst hb);simp_all [Qmf];try omega)
def iv (o a b c m:Int):List SV:= [.i o,.i a,.i b,.i c,.int .i32 m]
def Qfw (o a b c m:Int):Bool:=QcP o&&Qmf a (QrX o)&&Qmf b (Qzf o)&&Qmf c (QrY o)&&decide (m>=QgS o)&&decide (m<=Qg5 o)
theorem QmB (o a b c m:Int):FN 119 [.agg (iv o a b c m)] [] (. =⟨.a (.s (.bool (Qfw o a b c m))),[],[]⟩):=by
 refine fnW Tryz.func119 ?_;unfold iv;(conv=>whnf);(repeat' ((first|exact zi0|refine zj0 fun hb=>?_|(refine Qac (f:=179) (QvM _) rfl ?_)|(refine Qac (f:=182) (QB5 _ _) rfl ?_)|refine zs0 ?_|refine zbb ?_ ?_)<;>conv=>whnf))
 all_goals (refine Qam rfl ?_;simp only [Qba];congr 3;try grind [Qfw])
def kz (b:Bool) (x:Int):Int:=if b then x else 0
def dOp (w:Nat):Int:=(w / 2^24%2^8:Nat)
def dA (w:Nat):Int:=(w / 2^20%2^4:Nat)
def dB (w:Nat):Int:=(w / 2^16%2^4:Nat)
def dI (w:Nat):Nat:=w / 2^0%2^16
def dC (w:Nat):Int:=if QrY (dOp w) then dI w else 0
def sx (x:Nat):Int:=if x<32768 then x else x-65536
def dM (w:Nat):Int:=if QrY (dOp w) then 0 else if QgS (dOp w)<0 then sx (dI w) else dI w
def dOk (w:Nat):Bool:=QcP (dOp w)&&Qfw (dOp w) (dA w) (dB w) (dC w) (dM w)
theorem QCu (x:Nat) (hx:x<65536):IntKind.i32.wrap ((QCr x:Nat):Int)=sx x:=by
 unfold IntKind.wrap QCr sx;simp only [IntKind.signed,IntKind.bits,Bool.true_and,zde]
 by_cases h:x<32768
 .rw [zP h,zP h,zN (by simp;omega)];omega
 .rw [zN h,zN h,zP (by simp;omega)];omega
theorem QoU (w:Nat) (hw:ZU w):FN 115 [.s (.u w)] [] (. =⟨.tup [.agg (iv (kz (dOk w) (dOp w)) (kz (dOk w) (dA w)) (kz (dOk w) (dB w)) (kz (dOk w) (dC w)) (kz (dOk w) (dM w))),.s (.bool (dOk w))],[],[]⟩):=by
 refine fnW Tryz.func115 ?_;(conv=>whnf);(repeat' ((first|exact zi0|refine zj0 fun hb=>?_|(refine Qac (f:=172) (Qdz w 24 8 hw (by omega) (by omega) (by omega)) rfl ?_)|(refine Qac (f:=172) (Qdz w 20 4 hw (by omega) (by omega) (by omega)) rfl ?_)|(refine Qac (f:=172) (Qdz w 16 4 hw (by omega) (by omega) (by omega)) rfl ?_)|(refine Qac (f:=172) (Qdz w 0 16 hw (by omega) (by omega) (by omega)) rfl ?_)|(refine Qac (f:=179) (QvM _) rfl ?_)|(refine Qac (f:=119) (QmB _ _ _ _ _) rfl ?_)|(refine Qac (f:=180) (Qy7 _ (by omega)) rfl ?_)|((with_reducible apply Vl.mk (α:=Int)); . exact QCu _ (by omega))|refine zs0 ?_|refine zbb ?_ ?_)<;>conv=>whnf))
 all_goals
  refine Qam rfl ?_
  try have hn:¬ QgS ((w / 2^24%2^8:Nat):Int)<0:=by omega
  simp only [Qba,iv,kz,dOk,dOp,dA,dB,dC,dM,dI,Bool.true_and,zbf,if_true,if_false,Bool.false_eq_true, *]
  first
   | done
   | rfl
def QaK (o:Int):Int :=
 if 1<=o/\o<=13 then 2 else if o=16\/o=23\/32<=o/\o<=36\/40<=o/\o<=45\/o=49 then 3
 else if 17<=o/\o<=19 then 4 else if 20<=o/\o<=22 then 5 else if o=24 then 6 else if o=48 then 7
 else if o=58\/o=59 then 8 else if o=60\/o=61 then 9 else if o=56\/o=57\/62<=o/\o<=64 then 1 else 0
theorem Qqa {c:Prop} [Decidable c] {x y z:Int} (h1:c->x=z) (h2:¬ c->y=z):(if c then x else y)=z:=by
 by_cases h:c
 .rw [zP h];exact h1 h
 .rw [zN h];exact h2 h
theorem Qgl (o:Int):FN 37 [.s (.i o)] [] (. =⟨.a (.s (.i (QaK o))),[],[]⟩):=by
 refine fnW Tryz.func37 ?_;(conv=>whnf);(repeat' ((first|exact zi0|refine zj0 fun hb=>?_|refine zs0 ?_|refine zbb ?_ ?_)<;>conv=>whnf))
 all_goals
  apply Qam
  (focus rfl)
  simp only [Qba];congr 3;refine Eq.symm ?_;unfold QaK
  repeat' first
   | rfl
   | (apply Qqa<;>intro _)
   | (exfalso;omega)
theorem QgH (n k:Int) (h3:1<=k) (h4:k<=4611686018427387904):FN 8 [.s (.i n),.s (.i k)] [] (. =⟨.a (.s (.i (n%k))),[],[]⟩):=by
 have hz:(k==0)=false:=by simp;omega
 have hb:=Int.tmod_lt_of_pos n (show 0<k by omega);have FL:=Int.lt_tmod_of_pos n (show 0<k by omega)
 have he:n%k=if n.tmod k<0 then n.tmod k+k else n.tmod k:=by
  rw [Int.tmod_eq_emod];have:=Int.emod_nonneg n (show k≠0 by omega);have:=Int.emod_lt_of_pos n (show 0<k by omega);split
  .rw [zN (by omega)];omega
  .rename_i h
   rw [Int.natAbs_of_nonneg (by omega),zP (by omega)];omega
 refine fnW Tryz.func8 ?_;(conv=>whnf);(repeat' ((first|exact zi0|refine zj0 fun hb=>?_|refine zs0 ?_|refine zbb ?_ ?_)<;>conv=>whnf))
 .exact Qam rfl (by simp only [Qba];rw [he,zP hb])
 .exact Qam rfl (by simp only [Qba];rw [he,zN (by omega)])
def nxA (x:Int):Int:=IntKind.u64.wrap (x+11400714819323198485)
def nxB (x:Int):Int:=IntKind.u64.wrap (bits BinOp.xor IntKind.u64 (nxA x) (nxA x / 1073741824)*13787848793156543929)
def nxC (x:Int):Int:=IntKind.u64.wrap (bits BinOp.xor IntKind.u64 (nxB x) (nxB x / 134217728)*10723151780598845931)
def nxZ (x:Int):Int:=bits BinOp.xor IntKind.u64 (nxC x) (nxC x / 2147483648)
theorem QrU (n:Int):0<=IntKind.u64.wrap n/\IntKind.u64.wrap n<18446744073709551616:=by rw [IntKind.wrap_u64];omega
theorem QqF (x:Int):0<=nxZ x/\nxZ x<18446744073709551616:=QrU _
theorem QxK (x:Int):FN 40 [.s (.w x)] [] (. =⟨.tup [.s (.w (nxZ x)),.s (.w (nxA x))],[],[]⟩):=by
 refine fnW Tryz.func40 ?_;(conv=>whnf);(repeat' ((first|exact zi0|refine zj0 fun hb=>?_|((with_reducible apply Vl.mk (α:=Int)); . rfl)|refine zs0 ?_|refine zbb ?_ ?_)<;>conv=>whnf))
 all_goals exact Qam rfl rfl
def mix (n k:Int):Int:=nxZ (bits BinOp.xor IntKind.u64 (IntKind.u64.wrap n) (IntKind.u64.wrap (IntKind.u64.wrap k*11400714819323198485))) / 2
theorem Qjn (n k:Int):0<=mix n k/\mix n k<=9223372036854775807:=by
 have:=QqF (bits BinOp.xor IntKind.u64 (IntKind.u64.wrap n) (IntKind.u64.wrap (IntKind.u64.wrap k*11400714819323198485)));unfold mix;omega
theorem QtB (n k:Int):IntKind.i64.wrap (nxZ (bits BinOp.xor IntKind.u64 (IntKind.u64.wrap n) (IntKind.u64.wrap (IntKind.u64.wrap k*11400714819323198485))) / 2^min (Int.toNat 1) IntKind.u64.bits)=mix n k:=by
 rw [show (2:Int)^min (Int.toNat 1) IntKind.u64.bits=2 from rfl];have:=Qjn n k;exact Qb3 (by unfold mix at this;omega) (by unfold mix at this;omega)
theorem QBI (n k:Int):FN 20 [.s (.i n),.s (.i k)] [] (. =⟨.a (.s (.i (mix n k))),[],[]⟩):=by
 refine fnW Tryz.func20 ?_;(conv=>whnf);(repeat' ((first|exact zi0|refine zj0 fun hb=>?_|(refine Qac (f:=40) (QxK _) rfl ?_)|((with_reducible apply Vl.mk (α:=Int)); . first|exact QtB n k|rfl)|refine zs0 ?_|refine zbb ?_ ?_)<;>conv=>whnf))
 all_goals exact Qam rfl rfl
theorem Qqc (k:IntKind) (ls:List Int) (i:Nat) (h:i<ls.length):(isv k ls)[i]?=some (.int k (ls.getD i 0)):=by
 unfold isv;rw [zgm,zgg h];simp [List.getD,h]
theorem Qbe (k:IntKind) (ls:List Int):Qaq (isv k ls)=true:=by
 induction ls with
 | nil=>rfl
 | cons x xs ih=>exact ih
end Go.Proofs.YtflaceijiphfdaaGreat
