import Derived.Test.YtjgikeckbeeehaaGreatP16
import Derived.KernelRfl
set_option linter.unusedSimpArgs false
set_option linter.unusedVariables false
set_option maxHeartbeats 100000000
set_option maxRecDepth 100000
namespace Go.Proofs.YtjgikeckbeeehaaGreat
open Go Go.RowKit
def QAv (M:Mc) (n:Nat):Bool:=decide ((Qgx M).getD 0 0%2=1)&&(ld4 n (QfA M)&&(dOk (Qj9 M)&&(decide (dOp (Qj9 M)=60)&&decide (dM (Qj9 M)=2))))
def Qni (M:Mc) (n:Nat):Ex:=exS M.x (QfA M) (Qgx M) M.m n
def Qx6 (M:Mc) (Q:Ex):Mc:= { M with x:=Q.x,pc:=Q.pc,c:=Q.c,m:=Q.m,wt:=false }
def QAP (M:Mc) (n:Nat) (p:Int) (v:Nat):Mc × Option (List SV) :=
 if p=0 then (M,some [.int .i64 1,.int .u64 M.ct,.int .u32 0,.str (strOfNums [v%256])])
 else if p≤2 then (M,none)
 else if p=3 then ({ M with ta:=decide (¬ (v:Int)=0),td:=v,tf:=false },none)
 else if p≤6 then ({ M with d:=(QbQ M.d M.m n p v M.ct).1 },(QbQ M.d M.m n p v M.ct).2)
 else if p≤9 then ({ M with n:=(QbU M.n M.m n p v M.ct).1 },(QbU M.n M.m n p v M.ct).2)
 else ({ M with bg:=Qlx M.bg n p v,m:=Qhk M.m M.bg n p v },none)
theorem QrG {M:Mc} {n:Nat} (h:M.m.length=n) (p:Int) (v:Nat):QAP M n p v=Qbj M p v:=by subst h;rfl
def Qa0 (M:Mc) (n:Nat):Option Mc :=
 if QAv M n=true then none
 else if eK (Qni M n).e=1 then none
 else if eK (Qni M n).e=2 then some (Qdh (QAP (Qx6 M (Qni M n)) n (eP (Qni M n).e) (eV (Qni M n).e)).1)
 else if eK (Qni M n).e=3 then none
 else if eK (Qni M n).e=4 then none
 else some (Qdh (Qx6 M (Qni M n)))
theorem Qs3 {M M':Mc} {n:Nat} (hM:M.ok) (hn:M.m.length=n) (h:Qa0 M n=some M'):Qm6 M=false∧(Qb8 M 0).1=M':=by
 subst hn
 have e:Qni M M.m.length=Qbb M:=rfl
 have e2:Qx6 M (Qbb M)=QaG M:=rfl
 have e3:QAv M M.m.length=Qm6 M:=rfl
 unfold Qa0 at h
 rw [e,e2,e3,QrG (M:=QaG M) (QcU M hM).ml] at h
 unfold Qb8
 split at h
 ·cases h
 rename_i hr
 refine ⟨by simpa using hr,?_⟩
 split at h
 ·cases h
 rename_i h1
 rw [if_neg h1]
 split at h
 ·rename_i h2
  rw [if_pos h2]
  injection h with h
 rename_i h2
 rw [if_neg h2]
 split at h
 ·cases h
 rename_i h3
 rw [if_neg h3]
 split at h
 ·cases h
 rename_i h4
 rw [if_neg h4]
 injection h with h
def chN (n:Nat):Mc→List Mc→Prop
 | _,[]=>True
 | a,b::l=>Qa0 a n=some b∧chN n b l
theorem Ql2 (n:Nat) (z:Mc):∀ (l:List Mc) (a M:Mc),chN n a (l++ [z])→M∈a::(l++ [z])→M=z∨∃ M',Qa0 M n=some M'∧M'∈a::(l++ [z])
 | [],a,M,h,hm=>by
  rcases List.mem_cons.1 hm with rfl|hm
  ·exact .inr ⟨z,h.1,by simp⟩
  ·exact .inl (by simpa using hm)
 | b::l,a,M,h,hm=>by
  rcases List.mem_cons.1 hm with rfl|hm
  ·exact .inr ⟨b,h.1,by simp⟩
  ·rcases Ql2 n z l b M h.2 hm with h1|⟨M',h1,h2⟩
   ·exact .inl h1
   ·exact .inr ⟨M',h1,List.mem_cons_of_mem _ h2⟩
def kA:List Nat:= [403701760,303104152,990904321,403701760,303104031,990904327,403701760,303104004,990904326,404750336,304218624,405798912,305332224,406847488,306446344,340983816,307560455,342032386,23461890,592838656,271777793,708116474,403701760,303104006,1024458759,403701760,303104002,1024458761,403701760,303104100,1024458755,403701760,303104640,990904322,403701760,303104021,990904320,956301312,990904325,974127107,386990096,672137233,974127106,269549572,990904322,1009778690,1026555904,403701760,303104001,1024458756,403701760,303104007,1024458757,286392321,269549569,1024458758,974127109,956301312,1007681536,1024458752,1023410182,1023410185,403701760,303104006,1024458759,403701760,303104002,1024458761,1007681538,269549588,1024458755,1007681546,1024458762,974127109,956301312,0,0,0,0,0,0,0,0,0,0,0,0,0,0,0,0,0,0,0,0,0,0,0,0,0,0,0,0,0,0,0,0,0,0,0,0,0,0,0,0,0,0,0,0,0,0,0,0,0,0,0,0,0]
def kp0:List Nat:= [0,0,0,0,0,0,0,0]
def kp1:List Nat:= [7,0,0,0,0,0,0,0]
def kp2:List Nat:= [7,263,0,0,0,0,0,0]
def kp3:List Nat:= [7,263,519,0,0,0,0,0]
def kp4:List Nat:= [7,263,519,775,0,0,0,0]
def kp5:List Nat:= [7,263,519,775,1031,0,0,0]
def kp6:List Nat:= [7,263,519,775,1031,1287,0,0]
def kp7:List Nat:= [7,263,519,775,1031,1287,1543,0]
def kp8:List Nat:= [7,263,519,775,1031,1287,1543,1799]
def kM (a b c d e f pc s v ep r en:Nat) (p:List Nat) (ta:Bool) (td fr:Nat) (po:Bool) (bu ct:Nat) (u:List Nat):Mc:=⟨[0,a,b,c,d,e,f,0,0,0,0,0,0,0,0,0],pc,[s,v,ep,0,0,0,r,en],kA++(p++(zer 24++u)),⟨#[]⟩,ta,td,false,⟨4,0,0,0,0,0,0,⟨#[]⟩⟩,⟨fr,0,po,bu,false,0⟩,0,0,ct,false,false⟩
def kS0:=kM 0 0 0 0 0 0 0 1 0 0 0 0 kp0 false 0 0 false 0 0
def kS1:=kM 0 0 0 0 0 0 4 1 0 0 0 0 kp0 false 0 0 false 0 1
def kS2:=kM 152 0 0 0 0 0 8 1 0 0 0 0 kp0 false 0 0 false 0 2
def kS3:=kM 152 0 0 0 0 0 12 1 152 0 0 0 kp0 false 0 0 false 0 3
def kS4:=kM 0 0 0 0 0 0 16 1 152 0 0 0 kp0 false 0 0 false 0 4
def kS5:=kM 31 0 0 0 0 0 20 1 152 0 0 0 kp0 false 0 0 false 0 5
def kS6:=kM 31 0 0 0 0 0 24 1 152 0 0 31 kp0 false 0 0 false 0 6
def kS7:=kM 0 0 0 0 0 0 28 1 152 0 0 31 kp0 false 0 0 false 0 7
def kS8:=kM 4 0 0 0 0 0 32 1 152 0 0 31 kp0 false 0 0 false 0 8
def kS9:=kM 4 0 0 0 0 0 36 1 152 0 4 31 kp0 false 0 0 false 0 9
def QxW:=kM 4 0 0 0 0 0 40 1 152 0 4 31 kp0 false 0 0 false 0 10
def Qyv:=kM 4 512 0 0 0 0 44 1 152 0 4 31 kp0 false 0 0 false 0 11
def Qzv:=kM 4 512 0 0 0 0 48 1 152 0 4 31 kp0 false 0 0 false 0 12
def Qza:=kM 4 512 0 0 0 0 52 1 152 0 4 31 kp0 false 0 0 false 0 13
def QAp:=kM 4 512 0 0 0 0 56 1 152 0 4 31 kp0 false 0 0 false 0 14
def Qze:=kM 4 512 0 8 0 0 60 1 152 0 4 31 kp0 false 0 0 false 0 15
def QzN:=kM 4 512 0 8 0 0 64 1 152 0 4 31 kp0 false 0 0 false 0 16
def Qxs:=kM 4 512 0 8 7 0 68 1 152 0 4 31 kp0 false 0 0 false 0 17
def Qy7:=kM 4 512 0 8 7 0 72 1 152 0 4 31 kp0 false 0 0 false 0 18
def Qxo:=kM 4 512 0 8 7 512 76 1 152 0 4 31 kp0 false 0 0 false 0 19
def Qzi:=kM 4 512 0 8 7 512 80 1 152 0 4 31 kp1 false 0 0 false 0 20
def QxQ:=kM 4 512 1 8 7 512 84 1 152 0 4 31 kp1 false 0 0 false 0 21
def QAa:=kM 4 512 1 8 7 512 60 1 152 0 4 31 kp1 false 0 0 false 0 22
def QyE:=kM 4 512 1 8 256 512 64 1 152 0 4 31 kp1 false 0 0 false 0 23
def Qzj:=kM 4 512 1 8 263 512 68 1 152 0 4 31 kp1 false 0 0 false 0 24
def Qx4:=kM 4 512 1 8 263 4 72 1 152 0 4 31 kp1 false 0 0 false 0 25
def Qy2:=kM 4 512 1 8 263 516 76 1 152 0 4 31 kp1 false 0 0 false 0 26
def QyB:=kM 4 512 1 8 263 516 80 1 152 0 4 31 kp2 false 0 0 false 0 27
def Qz8:=kM 4 512 2 8 263 516 84 1 152 0 4 31 kp2 false 0 0 false 0 28
def Qyq:=kM 4 512 2 8 263 516 60 1 152 0 4 31 kp2 false 0 0 false 0 29
def Qyt:=kM 4 512 2 8 512 516 64 1 152 0 4 31 kp2 false 0 0 false 0 30
def QzA:=kM 4 512 2 8 519 516 68 1 152 0 4 31 kp2 false 0 0 false 0 31
def QxT:=kM 4 512 2 8 519 8 72 1 152 0 4 31 kp2 false 0 0 false 0 32
def QxI:=kM 4 512 2 8 519 520 76 1 152 0 4 31 kp2 false 0 0 false 0 33
def QzR:=kM 4 512 2 8 519 520 80 1 152 0 4 31 kp3 false 0 0 false 0 34
def QzE:=kM 4 512 3 8 519 520 84 1 152 0 4 31 kp3 false 0 0 false 0 35
def QzX:=kM 4 512 3 8 519 520 60 1 152 0 4 31 kp3 false 0 0 false 0 36
def QyI:=kM 4 512 3 8 768 520 64 1 152 0 4 31 kp3 false 0 0 false 0 37
def QxA:=kM 4 512 3 8 775 520 68 1 152 0 4 31 kp3 false 0 0 false 0 38
def Qya:=kM 4 512 3 8 775 12 72 1 152 0 4 31 kp3 false 0 0 false 0 39
def QyY:=kM 4 512 3 8 775 524 76 1 152 0 4 31 kp3 false 0 0 false 0 40
def QxY:=kM 4 512 3 8 775 524 80 1 152 0 4 31 kp4 false 0 0 false 0 41
def Qyx:=kM 4 512 4 8 775 524 84 1 152 0 4 31 kp4 false 0 0 false 0 42
def QxK:=kM 4 512 4 8 775 524 60 1 152 0 4 31 kp4 false 0 0 false 0 43
def QyU:=kM 4 512 4 8 1024 524 64 1 152 0 4 31 kp4 false 0 0 false 0 44
def QyG:=kM 4 512 4 8 1031 524 68 1 152 0 4 31 kp4 false 0 0 false 0 45
def Qz1:=kM 4 512 4 8 1031 16 72 1 152 0 4 31 kp4 false 0 0 false 0 46
def QxE:=kM 4 512 4 8 1031 528 76 1 152 0 4 31 kp4 false 0 0 false 0 47
def QzD:=kM 4 512 4 8 1031 528 80 1 152 0 4 31 kp5 false 0 0 false 0 48
def QzJ:=kM 4 512 5 8 1031 528 84 1 152 0 4 31 kp5 false 0 0 false 0 49
def QzK:=kM 4 512 5 8 1031 528 60 1 152 0 4 31 kp5 false 0 0 false 0 50
def Qz3:=kM 4 512 5 8 1280 528 64 1 152 0 4 31 kp5 false 0 0 false 0 51
def QxC:=kM 4 512 5 8 1287 528 68 1 152 0 4 31 kp5 false 0 0 false 0 52
def Qyu:=kM 4 512 5 8 1287 20 72 1 152 0 4 31 kp5 false 0 0 false 0 53
def QzS:=kM 4 512 5 8 1287 532 76 1 152 0 4 31 kp5 false 0 0 false 0 54
def QAj:=kM 4 512 5 8 1287 532 80 1 152 0 4 31 kp6 false 0 0 false 0 55
def Qzn:=kM 4 512 6 8 1287 532 84 1 152 0 4 31 kp6 false 0 0 false 0 56
def QyJ:=kM 4 512 6 8 1287 532 60 1 152 0 4 31 kp6 false 0 0 false 0 57
def Qxv:=kM 4 512 6 8 1536 532 64 1 152 0 4 31 kp6 false 0 0 false 0 58
def QAg:=kM 4 512 6 8 1543 532 68 1 152 0 4 31 kp6 false 0 0 false 0 59
def Qxu:=kM 4 512 6 8 1543 24 72 1 152 0 4 31 kp6 false 0 0 false 0 60
def Qyn:=kM 4 512 6 8 1543 536 76 1 152 0 4 31 kp6 false 0 0 false 0 61
def Qyl:=kM 4 512 6 8 1543 536 80 1 152 0 4 31 kp7 false 0 0 false 0 62
def Qzs:=kM 4 512 7 8 1543 536 84 1 152 0 4 31 kp7 false 0 0 false 0 63
def Qxr:=kM 4 512 7 8 1543 536 60 1 152 0 4 31 kp7 false 0 0 false 0 64
def Qz9:=kM 4 512 7 8 1792 536 64 1 152 0 4 31 kp7 false 0 0 false 0 65
def QyF:=kM 4 512 7 8 1799 536 68 1 152 0 4 31 kp7 false 0 0 false 0 66
def Qxw:=kM 4 512 7 8 1799 28 72 1 152 0 4 31 kp7 false 0 0 false 0 67
def QyS:=kM 4 512 7 8 1799 540 76 1 152 0 4 31 kp7 false 0 0 false 0 68
def Qyr:=kM 4 512 7 8 1799 540 80 1 152 0 4 31 kp8 false 0 0 false 0 69
def Qx8:=kM 4 512 8 8 1799 540 84 1 152 0 4 31 kp8 false 0 0 false 0 70
def QAe:=kM 4 512 8 8 1799 540 88 1 152 0 4 31 kp8 false 0 0 false 0 71
def Qy8:=kM 0 512 8 8 1799 540 92 1 152 0 4 31 kp8 false 0 0 false 0 72
def QyO:=kM 6 512 8 8 1799 540 96 1 152 0 4 31 kp8 false 0 0 false 0 73
def QyC:=kM 6 512 8 8 1799 540 100 1 152 0 4 31 kp8 false 0 6 false 0 74
def Qzx:=kM 0 512 8 8 1799 540 104 1 152 0 4 31 kp8 false 0 6 false 0 75
def Qym:=kM 2 512 8 8 1799 540 108 1 152 0 4 31 kp8 false 0 6 false 0 76
def QxU:=kM 2 512 8 8 1799 540 112 1 152 0 4 31 kp8 false 0 6 true 6 77
def QxJ:=kM 0 512 8 8 1799 540 116 1 152 0 4 31 kp8 false 0 6 true 6 78
def Qys:=kM 100 512 8 8 1799 540 120 1 152 0 4 31 kp8 false 0 6 true 6 79
def QzY:=kM 100 512 8 8 1799 540 124 1 152 0 4 31 kp8 true 100 6 true 6 80
def QyH:=kM 0 512 8 8 1799 540 128 1 152 0 4 31 kp8 true 100 6 true 6 81
def QyW:=kM 640 512 8 8 1799 540 132 1 152 0 4 31 kp8 true 100 6 true 6 82
def Qzr:=kM 640 512 8 8 1799 540 136 1 152 640 4 31 kp8 true 100 6 true 6 83
def QzW:=kM 0 512 8 8 1799 540 140 1 152 640 4 31 kp8 true 100 6 true 6 84
def QxD:=kM 21 512 8 8 1799 540 144 1 152 640 4 31 kp8 true 100 6 true 6 85
def Qzu:=kM 21 512 8 8 1799 540 148 21 152 640 4 31 kp8 true 100 6 true 6 86
def Qw1:=kM 21 512 8 8 1799 540 640 22 152 640 4 31 kp8 true 100 6 true 6 87
theorem kT0 (u:List Nat):Qa0 (kS0 u) 256=some (kS1 u):=by kernel_rfl
theorem kT1 (u:List Nat):Qa0 (kS1 u) 256=some (kS2 u):=by kernel_rfl
theorem kT2 (u:List Nat):Qa0 (kS2 u) 256=some (kS3 u):=by kernel_rfl
theorem kT3 (u:List Nat):Qa0 (kS3 u) 256=some (kS4 u):=by kernel_rfl
theorem kT4 (u:List Nat):Qa0 (kS4 u) 256=some (kS5 u):=by kernel_rfl
theorem kT5 (u:List Nat):Qa0 (kS5 u) 256=some (kS6 u):=by kernel_rfl
theorem kT6 (u:List Nat):Qa0 (kS6 u) 256=some (kS7 u):=by kernel_rfl
theorem kT7 (u:List Nat):Qa0 (kS7 u) 256=some (kS8 u):=by kernel_rfl
theorem kT8 (u:List Nat):Qa0 (kS8 u) 256=some (kS9 u):=by kernel_rfl
theorem kT9 (u:List Nat):Qa0 (kS9 u) 256=some (QxW u):=by kernel_rfl
theorem QC1 (u:List Nat):Qa0 (QxW u) 256=some (Qyv u):=by kernel_rfl
theorem QBc (u:List Nat):Qa0 (Qyv u) 256=some (Qzv u):=by kernel_rfl
theorem QCS (u:List Nat):Qa0 (Qzv u) 256=some (Qza u):=by kernel_rfl
theorem QCT (u:List Nat):Qa0 (Qza u) 256=some (QAp u):=by kernel_rfl
theorem QBy (u:List Nat):Qa0 (QAp u) 256=some (Qze u):=by kernel_rfl
theorem QBr (u:List Nat):Qa0 (Qze u) 256=some (QzN u):=by kernel_rfl
theorem QAY (u:List Nat):Qa0 (QzN u) 256=some (Qxs u):=by kernel_rfl
theorem QCK (u:List Nat):Qa0 (Qxs u) 256=some (Qy7 u):=by kernel_rfl
theorem QCu (u:List Nat):Qa0 (Qy7 u) 256=some (Qxo u):=by kernel_rfl
theorem QBw (u:List Nat):Qa0 (Qxo u) 256=some (Qzi u):=by kernel_rfl
theorem QA9 (u:List Nat):Qa0 (Qzi u) 256=some (QxQ u):=by kernel_rfl
theorem QCR (u:List Nat):Qa0 (QxQ u) 256=some (QAa u):=by kernel_rfl
theorem QBA (u:List Nat):Qa0 (QAa u) 256=some (QyE u):=by kernel_rfl
theorem QCb (u:List Nat):Qa0 (QyE u) 256=some (Qzj u):=by kernel_rfl
theorem QBf (u:List Nat):Qa0 (Qzj u) 256=some (Qx4 u):=by kernel_rfl
theorem QB4 (u:List Nat):Qa0 (Qx4 u) 256=some (Qy2 u):=by kernel_rfl
theorem QBn (u:List Nat):Qa0 (Qy2 u) 256=some (QyB u):=by kernel_rfl
theorem QA0 (u:List Nat):Qa0 (QyB u) 256=some (Qz8 u):=by kernel_rfl
theorem QCL (u:List Nat):Qa0 (Qz8 u) 256=some (Qyq u):=by kernel_rfl
theorem QBH (u:List Nat):Qa0 (Qyq u) 256=some (Qyt u):=by kernel_rfl
theorem QBe (u:List Nat):Qa0 (Qyt u) 256=some (QzA u):=by kernel_rfl
theorem QCE (u:List Nat):Qa0 (QzA u) 256=some (QxT u):=by kernel_rfl
theorem QBC (u:List Nat):Qa0 (QxT u) 256=some (QxI u):=by kernel_rfl
theorem QBL (u:List Nat):Qa0 (QxI u) 256=some (QzR u):=by kernel_rfl
theorem QCZ (u:List Nat):Qa0 (QzR u) 256=some (QzE u):=by kernel_rfl
theorem QCs (u:List Nat):Qa0 (QzE u) 256=some (QzX u):=by kernel_rfl
theorem QCP (u:List Nat):Qa0 (QzX u) 256=some (QyI u):=by kernel_rfl
theorem QBq (u:List Nat):Qa0 (QyI u) 256=some (QxA u):=by kernel_rfl
theorem QCQ (u:List Nat):Qa0 (QxA u) 256=some (Qya u):=by kernel_rfl
theorem QBt (u:List Nat):Qa0 (Qya u) 256=some (QyY u):=by kernel_rfl
theorem QCr (u:List Nat):Qa0 (QyY u) 256=some (QxY u):=by kernel_rfl
theorem QBN (u:List Nat):Qa0 (QxY u) 256=some (Qyx u):=by kernel_rfl
theorem QBQ (u:List Nat):Qa0 (Qyx u) 256=some (QxK u):=by kernel_rfl
theorem QCJ (u:List Nat):Qa0 (QxK u) 256=some (QyU u):=by kernel_rfl
theorem QCz (u:List Nat):Qa0 (QyU u) 256=some (QyG u):=by kernel_rfl
theorem QCv (u:List Nat):Qa0 (QyG u) 256=some (Qz1 u):=by kernel_rfl
theorem QCI (u:List Nat):Qa0 (Qz1 u) 256=some (QxE u):=by kernel_rfl
theorem QB8 (u:List Nat):Qa0 (QxE u) 256=some (QzD u):=by kernel_rfl
theorem QBK (u:List Nat):Qa0 (QzD u) 256=some (QzJ u):=by kernel_rfl
theorem QC3 (u:List Nat):Qa0 (QzJ u) 256=some (QzK u):=by kernel_rfl
theorem QBu (u:List Nat):Qa0 (QzK u) 256=some (Qz3 u):=by kernel_rfl
theorem QB1 (u:List Nat):Qa0 (Qz3 u) 256=some (QxC u):=by kernel_rfl
theorem QCY (u:List Nat):Qa0 (QxC u) 256=some (Qyu u):=by kernel_rfl
theorem QBk (u:List Nat):Qa0 (Qyu u) 256=some (QzS u):=by kernel_rfl
theorem QB9 (u:List Nat):Qa0 (QzS u) 256=some (QAj u):=by kernel_rfl
theorem QBF (u:List Nat):Qa0 (QAj u) 256=some (Qzn u):=by kernel_rfl
theorem QCV (u:List Nat):Qa0 (Qzn u) 256=some (QyJ u):=by kernel_rfl
theorem QCB (u:List Nat):Qa0 (QyJ u) 256=some (Qxv u):=by kernel_rfl
theorem QCO (u:List Nat):Qa0 (Qxv u) 256=some (QAg u):=by kernel_rfl
theorem QCC (u:List Nat):Qa0 (QAg u) 256=some (Qxu u):=by kernel_rfl
theorem QBW (u:List Nat):Qa0 (Qxu u) 256=some (Qyn u):=by kernel_rfl
theorem QCi (u:List Nat):Qa0 (Qyn u) 256=some (Qyl u):=by kernel_rfl
theorem QBo (u:List Nat):Qa0 (Qyl u) 256=some (Qzs u):=by kernel_rfl
theorem QB5 (u:List Nat):Qa0 (Qzs u) 256=some (Qxr u):=by kernel_rfl
theorem QBs (u:List Nat):Qa0 (Qxr u) 256=some (Qz9 u):=by kernel_rfl
theorem QCM (u:List Nat):Qa0 (Qz9 u) 256=some (QyF u):=by kernel_rfl
theorem QBR (u:List Nat):Qa0 (QyF u) 256=some (Qxw u):=by kernel_rfl
theorem QCN (u:List Nat):Qa0 (Qxw u) 256=some (QyS u):=by kernel_rfl
theorem QBM (u:List Nat):Qa0 (QyS u) 256=some (Qyr u):=by kernel_rfl
theorem QCo (u:List Nat):Qa0 (Qyr u) 256=some (Qx8 u):=by kernel_rfl
theorem QCW (u:List Nat):Qa0 (Qx8 u) 256=some (QAe u):=by kernel_rfl
theorem QB7 (u:List Nat):Qa0 (QAe u) 256=some (Qy8 u):=by kernel_rfl
theorem QBT (u:List Nat):Qa0 (Qy8 u) 256=some (QyO u):=by kernel_rfl
theorem QCD (u:List Nat):Qa0 (QyO u) 256=some (QyC u):=by kernel_rfl
theorem QBd (u:List Nat):Qa0 (QyC u) 256=some (Qzx u):=by kernel_rfl
theorem QCy (u:List Nat):Qa0 (Qzx u) 256=some (Qym u):=by kernel_rfl
theorem QCl (u:List Nat):Qa0 (Qym u) 256=some (QxU u):=by kernel_rfl
theorem QA3 (u:List Nat):Qa0 (QxU u) 256=some (QxJ u):=by kernel_rfl
theorem QBS (u:List Nat):Qa0 (QxJ u) 256=some (Qys u):=by kernel_rfl
theorem QBm (u:List Nat):Qa0 (Qys u) 256=some (QzY u):=by kernel_rfl
theorem QA4 (u:List Nat):Qa0 (QzY u) 256=some (QyH u):=by kernel_rfl
theorem QBY (u:List Nat):Qa0 (QyH u) 256=some (QyW u):=by kernel_rfl
theorem QBO (u:List Nat):Qa0 (QyW u) 256=some (Qzr u):=by kernel_rfl
theorem QCj (u:List Nat):Qa0 (Qzr u) 256=some (QzW u):=by kernel_rfl
theorem QBa (u:List Nat):Qa0 (QzW u) 256=some (QxD u):=by kernel_rfl
theorem QC7 (u:List Nat):Qa0 (QxD u) 256=some (Qzu u):=by kernel_rfl
theorem QA2 (u:List Nat):Qa0 (Qzu u) 256=some (Qw1 u):=by kernel_rfl
def kL (u:List Nat):List Mc:= [kS1 u,kS2 u,kS3 u,kS4 u,kS5 u,kS6 u,kS7 u,kS8 u,kS9 u,QxW u,Qyv u,Qzv u,Qza u,QAp u,Qze u,QzN u,Qxs u,Qy7 u,Qxo u,Qzi u,QxQ u,QAa u,QyE u,Qzj u,Qx4 u,Qy2 u,QyB u,Qz8 u,Qyq u,Qyt u,QzA u,QxT u,QxI u,QzR u,QzE u,QzX u,QyI u,QxA u,Qya u,QyY u,QxY u,Qyx u,QxK u,QyU u,QyG u,Qz1 u,QxE u,QzD u,QzJ u,QzK u,Qz3 u,QxC u,Qyu u,QzS u,QAj u,Qzn u,QyJ u,Qxv u,QAg u,Qxu u,Qyn u,Qyl u,Qzs u,Qxr u,Qz9 u,QyF u,Qxw u,QyS u,Qyr u,Qx8 u,QAe u,Qy8 u,QyO u,QyC u,Qzx u,Qym u,QxU u,QxJ u,Qys u,QzY u,QyH u,QyW u,Qzr u,QzW u,QxD u,Qzu u]
theorem kC (u:List Nat):chN 256 (kS0 u) (kL u++ [Qw1 u]):=⟨kT0 u,kT1 u,kT2 u,kT3 u,kT4 u,kT5 u,kT6 u,kT7 u,kT8 u,kT9 u,QC1 u,QBc u,QCS u,QCT u,QBy u,QBr u,QAY u,QCK u,QCu u,QBw u,QA9 u,QCR u,QBA u,QCb u,QBf u,QB4 u,QBn u,QA0 u,QCL u,QBH u,QBe u,QCE u,QBC u,QBL u,QCZ u,QCs u,QCP u,QBq u,QCQ u,QBt u,QCr u,QBN u,QBQ u,QCJ u,QCz u,QCv u,QCI u,QB8 u,QBK u,QC3 u,QBu u,QB1 u,QCY u,QBk u,QB9 u,QBF u,QCV u,QCB u,QCO u,QCC u,QBW u,QCi u,QBo u,QB5 u,QBs u,QCM u,QBR u,QCN u,QBM u,QCo u,QCW u,QB7 u,QBT u,QCD u,QBd u,QCy u,QCl u,QA3 u,QBS u,QBm u,QA4 u,QBY u,QBO u,QCj u,QBa u,QC7 u,QA2 u,trivial⟩
end Go.Proofs.YtjgikeckbeeehaaGreat
