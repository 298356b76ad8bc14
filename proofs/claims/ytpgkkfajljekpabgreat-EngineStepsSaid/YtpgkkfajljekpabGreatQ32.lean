import Derived.Test.YtpgkkfajljekpabGreatQ34
set_option linter.unusedSimpArgs false
set_option linter.unusedVariables false
set_option maxHeartbeats 0
set_option maxRecDepth 1000000
namespace Go.Proofs.YtpgkkfajljekpabGreat
open Go Go.RowKit
def QHR (M:Mc) (n:Nat):Bool:=decide ((Qdd M).getD 0 0%2=1)&&(ld4 n (Qde M)&&(dOk (QnJ M)&&(decide (dOp (QnJ M)=60)&&decide (dM (QnJ M)=2))))
def QuV (M:Mc) (n:Nat):Ex:=exS M.x (Qde M) (Qdd M) M.m n
def QGF (M:Mc) (Q:Ex):Mc:= { M with x:=Q.x,pc:=Q.pc,c:=Q.c,m:=Q.m,wt:=false }
def QHQ (M:Mc) (n:Nat) (p:Int) (v:Nat):Mc × Option (List SV) :=
 if p=0 then (M,some [.i 1,.w M.ct,.u 0,.str (strOfNums [v%256])])
 else if p<=2 then (M,none)
 else if p=3 then ({ M with ta:=decide (¬ (v:Int)=0),td:=v,tf:=false },none)
 else if p<=6 then ({ M with d:=(Qa4 M.d M.m n p v M.ct).1 },(Qa4 M.d M.m n p v M.ct).2)
 else if p<=9 then ({ M with n:=(Qbk M.n M.m n p v M.ct).1 },(Qbk M.n M.m n p v M.ct).2)
 else ({ M with bg:=Qhj M.bg n p v,m:=QfO M.m M.bg n p v },none)
theorem Qyq {M:Mc} {n:Nat} (h:M.m.length=n) (p:Int) (v:Nat):QHQ M n p v=Qbx M p v:=by subst h;rfl
def QEH (M:Mc) (n:Nat):Option Mc :=
 if QHR M n=true then none
 else if eK (QuV M n).e=1 then none
 else if eK (QuV M n).e=2 then some (Qdc (QHQ (QGF M (QuV M n)) n (eP (QuV M n).e) (eV (QuV M n).e)).1)
 else if eK (QuV M n).e=3 then none
 else if eK (QuV M n).e=4 then none
 else some (Qdc (QGF M (QuV M n)))
theorem QwD {M M':Mc} {n:Nat} (hM:M.ok) (hn:M.m.length=n) (h:QEH M n=some M'):QmH M=false/\(Qbh M 0).1=M':=by
 subst hn;have e:QuV M M.m.length=QaI M:=rfl;have e2:QGF M (QaI M)=QaF M:=rfl;have e3:QHR M M.m.length=QmH M:=rfl;unfold QEH at h;rw [e,e2,e3,Qyq (M:=QaF M) (QbY M hM).ml] at h;unfold Qbh;split at h
 .cases h
 rename_i hr;refine ⟨by simpa using hr,?_⟩;split at h
 .cases h
 rename_i h1;rw [zN h1];split at h
 .rename_i h2
  rw [zP h2];injection h with h
 rename_i h2;rw [zN h2];split at h
 .cases h
 rename_i h3;rw [zN h3];split at h
 .cases h
 rename_i h4;rw [zN h4];injection h with h
def chN (n:Nat):Mc->List Mc->Prop
 | _,[]=>True
 | a,b::l=>QEH a n=some b/\chN n b l
theorem Qo3 (n:Nat) (z:Mc):∀ (l:List Mc) (a M:Mc),chN n a (l++ [z])->M∈a::(l++ [z])->M=z\/∃ M',QEH M n=some M'/\M'∈a::(l++ [z])
 | [],a,M,h,hm=>by
  rcases List.mem_cons.1 hm with rfl|hm
  .exact .inr ⟨z,h.1,by simp⟩
  .exact .inl (by simpa using hm)
 | b::l,a,M,h,hm=>by
  rcases List.mem_cons.1 hm with rfl|hm
  .exact .inr ⟨b,h.1,by simp⟩
  .rcases Qo3 n z l b M h.2 hm with h1|⟨M',h1,h2⟩
   .exact .inl h1
   .exact .inr ⟨M',h1,List.mem_cons_of_mem _ h2⟩
def kA:List Nat:= [403701760,303104152,990904321,403701760,303104031,990904327,403701760,303104004,990904326,404750336,304218624,405798912,305332224,406847488,306446344,340983816,307560455,342032386,23461890,592838656,271777793,708116474,403701760,303104006,1024458759,403701760,303104002,1024458761,403701760,303104100,1024458755,403701760,303104640,990904322,403701760,303104021,990904320,956301312,990904325,974127107,386990096,672137233,974127106,269549572,990904322,1009778690,1026555904,403701760,303104001,1024458756,403701760,303104007,1024458757,286392321,269549569,1024458758,974127109,956301312,1007681536,1024458752,1023410182,1023410185,403701760,303104006,1024458759,403701760,303104002,1024458761,1007681538,269549588,1024458755,1007681546,1024458762,974127109,956301312,0,0,0,0,0,0,0,0,0,0,0,0,0,0,0,0,0,0,0,0,0,0,0,0,0,0,0,0,0,0,0,0,0,0,0,0,0,0,0,0,0,0,0,0,0,0,0,0,0,0,0,0,0]
def kp0:List Nat:= [0,0,0,0,0,0,0,0]
def kp1:List Nat:= [7,0,0,0,0,0,0,0]
def kp2:List Nat:= [7,263,0,0,0,0,0,0]
def kp3:List Nat:= [7,263,519,0,0,0,0,0]
def kp4:List Nat:= [7,263,519,775,0,0,0,0]
def kp5:List Nat:= [7,263,519,775,1031,0,0,0]
def kp6:List Nat:= [7,263,519,775,1031,1287,0,0]
def kp7:List Nat:= [7,263,519,775,1031,1287,1543,0]
def kp8:List Nat:= [7,263,519,775,1031,1287,1543,1799]
def kM (a b c d e f pc s v ep r en:Nat) (p:List Nat) (ta:Bool) (td fr:Nat) (po:Bool) (bu ct:Nat) (u:List Nat):Mc:=⟨[0,a,b,c,d,e,f,0,0,0,0,0,0,0,0,0],pc,[s,v,ep,0,0,0,r,en],kA++(p++(zer 24++u)),⟨#[]⟩,ta,td,false,⟨4,0,0,0,0,0,0,⟨#[]⟩⟩,⟨fr,0,po,bu,false,0⟩,0,0,ct,false,false⟩
def kS0:=kM 0 0 0 0 0 0 0 1 0 0 0 0 kp0 false 0 0 false 0 0
def QF3:=kM 21 512 8 8 1799 540 640 22 152 640 4 31 kp8 true 100 6 true 6 87
def kL (u:List Nat):List Mc:= [kM 0 0 0 0 0 0 4 1 0 0 0 0 kp0 false 0 0 false 0 1 u,kM 152 0 0 0 0 0 8 1 0 0 0 0 kp0 false 0 0 false 0 2 u,kM 152 0 0 0 0 0 12 1 152 0 0 0 kp0 false 0 0 false 0 3 u,kM 0 0 0 0 0 0 16 1 152 0 0 0 kp0 false 0 0 false 0 4 u,kM 31 0 0 0 0 0 20 1 152 0 0 0 kp0 false 0 0 false 0 5 u,kM 31 0 0 0 0 0 24 1 152 0 0 31 kp0 false 0 0 false 0 6 u,kM 0 0 0 0 0 0 28 1 152 0 0 31 kp0 false 0 0 false 0 7 u,kM 4 0 0 0 0 0 32 1 152 0 0 31 kp0 false 0 0 false 0 8 u,kM 4 0 0 0 0 0 36 1 152 0 4 31 kp0 false 0 0 false 0 9 u,kM 4 0 0 0 0 0 40 1 152 0 4 31 kp0 false 0 0 false 0 10 u,kM 4 512 0 0 0 0 44 1 152 0 4 31 kp0 false 0 0 false 0 11 u,kM 4 512 0 0 0 0 48 1 152 0 4 31 kp0 false 0 0 false 0 12 u,kM 4 512 0 0 0 0 52 1 152 0 4 31 kp0 false 0 0 false 0 13 u,kM 4 512 0 0 0 0 56 1 152 0 4 31 kp0 false 0 0 false 0 14 u,kM 4 512 0 8 0 0 60 1 152 0 4 31 kp0 false 0 0 false 0 15 u,kM 4 512 0 8 0 0 64 1 152 0 4 31 kp0 false 0 0 false 0 16 u,kM 4 512 0 8 7 0 68 1 152 0 4 31 kp0 false 0 0 false 0 17 u,kM 4 512 0 8 7 0 72 1 152 0 4 31 kp0 false 0 0 false 0 18 u,kM 4 512 0 8 7 512 76 1 152 0 4 31 kp0 false 0 0 false 0 19 u,kM 4 512 0 8 7 512 80 1 152 0 4 31 kp1 false 0 0 false 0 20 u,kM 4 512 1 8 7 512 84 1 152 0 4 31 kp1 false 0 0 false 0 21 u,kM 4 512 1 8 7 512 60 1 152 0 4 31 kp1 false 0 0 false 0 22 u,kM 4 512 1 8 256 512 64 1 152 0 4 31 kp1 false 0 0 false 0 23 u,kM 4 512 1 8 263 512 68 1 152 0 4 31 kp1 false 0 0 false 0 24 u,kM 4 512 1 8 263 4 72 1 152 0 4 31 kp1 false 0 0 false 0 25 u,kM 4 512 1 8 263 516 76 1 152 0 4 31 kp1 false 0 0 false 0 26 u,kM 4 512 1 8 263 516 80 1 152 0 4 31 kp2 false 0 0 false 0 27 u,kM 4 512 2 8 263 516 84 1 152 0 4 31 kp2 false 0 0 false 0 28 u,kM 4 512 2 8 263 516 60 1 152 0 4 31 kp2 false 0 0 false 0 29 u,kM 4 512 2 8 512 516 64 1 152 0 4 31 kp2 false 0 0 false 0 30 u,kM 4 512 2 8 519 516 68 1 152 0 4 31 kp2 false 0 0 false 0 31 u,kM 4 512 2 8 519 8 72 1 152 0 4 31 kp2 false 0 0 false 0 32 u,kM 4 512 2 8 519 520 76 1 152 0 4 31 kp2 false 0 0 false 0 33 u,kM 4 512 2 8 519 520 80 1 152 0 4 31 kp3 false 0 0 false 0 34 u,kM 4 512 3 8 519 520 84 1 152 0 4 31 kp3 false 0 0 false 0 35 u,kM 4 512 3 8 519 520 60 1 152 0 4 31 kp3 false 0 0 false 0 36 u,kM 4 512 3 8 768 520 64 1 152 0 4 31 kp3 false 0 0 false 0 37 u,kM 4 512 3 8 775 520 68 1 152 0 4 31 kp3 false 0 0 false 0 38 u,kM 4 512 3 8 775 12 72 1 152 0 4 31 kp3 false 0 0 false 0 39 u,kM 4 512 3 8 775 524 76 1 152 0 4 31 kp3 false 0 0 false 0 40 u,kM 4 512 3 8 775 524 80 1 152 0 4 31 kp4 false 0 0 false 0 41 u,kM 4 512 4 8 775 524 84 1 152 0 4 31 kp4 false 0 0 false 0 42 u,kM 4 512 4 8 775 524 60 1 152 0 4 31 kp4 false 0 0 false 0 43 u,kM 4 512 4 8 1024 524 64 1 152 0 4 31 kp4 false 0 0 false 0 44 u,kM 4 512 4 8 1031 524 68 1 152 0 4 31 kp4 false 0 0 false 0 45 u,kM 4 512 4 8 1031 16 72 1 152 0 4 31 kp4 false 0 0 false 0 46 u,kM 4 512 4 8 1031 528 76 1 152 0 4 31 kp4 false 0 0 false 0 47 u,kM 4 512 4 8 1031 528 80 1 152 0 4 31 kp5 false 0 0 false 0 48 u,kM 4 512 5 8 1031 528 84 1 152 0 4 31 kp5 false 0 0 false 0 49 u,kM 4 512 5 8 1031 528 60 1 152 0 4 31 kp5 false 0 0 false 0 50 u,kM 4 512 5 8 1280 528 64 1 152 0 4 31 kp5 false 0 0 false 0 51 u,kM 4 512 5 8 1287 528 68 1 152 0 4 31 kp5 false 0 0 false 0 52 u,kM 4 512 5 8 1287 20 72 1 152 0 4 31 kp5 false 0 0 false 0 53 u,kM 4 512 5 8 1287 532 76 1 152 0 4 31 kp5 false 0 0 false 0 54 u,kM 4 512 5 8 1287 532 80 1 152 0 4 31 kp6 false 0 0 false 0 55 u,kM 4 512 6 8 1287 532 84 1 152 0 4 31 kp6 false 0 0 false 0 56 u,kM 4 512 6 8 1287 532 60 1 152 0 4 31 kp6 false 0 0 false 0 57 u,kM 4 512 6 8 1536 532 64 1 152 0 4 31 kp6 false 0 0 false 0 58 u,kM 4 512 6 8 1543 532 68 1 152 0 4 31 kp6 false 0 0 false 0 59 u,kM 4 512 6 8 1543 24 72 1 152 0 4 31 kp6 false 0 0 false 0 60 u,kM 4 512 6 8 1543 536 76 1 152 0 4 31 kp6 false 0 0 false 0 61 u,kM 4 512 6 8 1543 536 80 1 152 0 4 31 kp7 false 0 0 false 0 62 u,kM 4 512 7 8 1543 536 84 1 152 0 4 31 kp7 false 0 0 false 0 63 u,kM 4 512 7 8 1543 536 60 1 152 0 4 31 kp7 false 0 0 false 0 64 u,kM 4 512 7 8 1792 536 64 1 152 0 4 31 kp7 false 0 0 false 0 65 u,kM 4 512 7 8 1799 536 68 1 152 0 4 31 kp7 false 0 0 false 0 66 u,kM 4 512 7 8 1799 28 72 1 152 0 4 31 kp7 false 0 0 false 0 67 u,kM 4 512 7 8 1799 540 76 1 152 0 4 31 kp7 false 0 0 false 0 68 u,kM 4 512 7 8 1799 540 80 1 152 0 4 31 kp8 false 0 0 false 0 69 u,kM 4 512 8 8 1799 540 84 1 152 0 4 31 kp8 false 0 0 false 0 70 u,kM 4 512 8 8 1799 540 88 1 152 0 4 31 kp8 false 0 0 false 0 71 u,kM 0 512 8 8 1799 540 92 1 152 0 4 31 kp8 false 0 0 false 0 72 u,kM 6 512 8 8 1799 540 96 1 152 0 4 31 kp8 false 0 0 false 0 73 u,kM 6 512 8 8 1799 540 100 1 152 0 4 31 kp8 false 0 6 false 0 74 u,kM 0 512 8 8 1799 540 104 1 152 0 4 31 kp8 false 0 6 false 0 75 u,kM 2 512 8 8 1799 540 108 1 152 0 4 31 kp8 false 0 6 false 0 76 u,kM 2 512 8 8 1799 540 112 1 152 0 4 31 kp8 false 0 6 true 6 77 u,kM 0 512 8 8 1799 540 116 1 152 0 4 31 kp8 false 0 6 true 6 78 u,kM 100 512 8 8 1799 540 120 1 152 0 4 31 kp8 false 0 6 true 6 79 u,kM 100 512 8 8 1799 540 124 1 152 0 4 31 kp8 true 100 6 true 6 80 u,kM 0 512 8 8 1799 540 128 1 152 0 4 31 kp8 true 100 6 true 6 81 u,kM 640 512 8 8 1799 540 132 1 152 0 4 31 kp8 true 100 6 true 6 82 u,kM 640 512 8 8 1799 540 136 1 152 640 4 31 kp8 true 100 6 true 6 83 u,kM 0 512 8 8 1799 540 140 1 152 640 4 31 kp8 true 100 6 true 6 84 u,kM 21 512 8 8 1799 540 144 1 152 640 4 31 kp8 true 100 6 true 6 85 u,kM 21 512 8 8 1799 540 148 21 152 640 4 31 kp8 true 100 6 true 6 86 u]
theorem kC (u:List Nat):chN 256 (kS0 u) (kL u++ [QF3 u]):=by
 repeat (refine ⟨by kernel_rfl,?_⟩)
 trivial
noncomputable def QCs (l:List Oper):Option ByteArray:=List.rec none (fun o _ ih=>match o.op with
 | .call c=>(match c.args.toList with
  | [.const (.string s)]=>some s
  | _=>ih)
 | _=>ih) l
noncomputable def Qdt:Code->Option ByteArray
 | .region _ ops _=>QCs ops.toList
 | .seq a b=>(match Qdt a with
  | some s=>some s
  | none=>Qdt b)
 | .cond _ a b=>(match Qdt a with
  | some s=>some s
  | none=>Qdt b)
 | .block _ a=>Qdt a
 | .loop a=>Qdt a
 | .scope a=>Qdt a
 | _=>none
noncomputable def srcK:ByteArray:=(Qdt (Tryz.f7.body.getD .skip)).getD ⟨#[]⟩
noncomputable def QI5 (l:List UInt8):List UInt8->List (List UInt8):=List.rec (fun acc=> [acc.reverse]) (fun x _ ih acc=>match Nat.beq x.toNat 10 with
 | true=>acc.reverse::ih []
 | false=>ih (x::acc)) l
noncomputable def lnK (i:Nat):List UInt8:=(QI5 srcK.data.toList []).getD i []
def nbF:Nat->Nat->List UInt8->List UInt8
 | 0,_,l=>l
 | k+1,n,l=>match Nat.beq n 0 with
  | true=>l
  | false=>nbF k (n / 256) (UInt8.ofNat (n%256)::l)
def nb (n:Nat):SV:= .str ⟨⟨nbF 12 n []⟩⟩
abbrev Lk:=Nat × Nat × Int × Int × List (Int × Int × Nat)
def lnD:List Lk:= [(0,27753,0,2,[(1,0,0),(0,0,29380524337030514)]),(0,1668510327,59,1,[(1,0,0),(0,1,0)]),(0,27753,0,2,[(1,0,0),(0,31,0)]),(0,1668510327,59,1,[(1,0,0),(0,7,0)]),(0,27753,0,2,[(1,0,0),(0,4,0)]),(0,1668510327,59,1,[(1,0,0),(0,6,0)]),(0,27753,0,2,[(2,0,0),(0,512,0)]),(0,27753,0,2,[(3,0,0),(0,0,0)]),(0,27753,0,2,[(4,0,0),(0,8,0)]),(7168368,1936223337,20,1,[(5,0,0),(3,0,0),(0,8,0)]),(0,7303785,18,1,[(5,0,0),(5,0,0),(0,7,0)]),(0,1936223337,20,1,[(6,0,0),(3,0,0),(0,2,0)]),(0,6382692,1,1,[(6,0,0),(6,0,0),(2,0,0)]),(0,29559,35,1,[(5,0,0),(0,0,0),(6,0,0)]),(0,1633969257,16,1,[(3,0,0),(3,0,0),(0,1,0)]),(0,6450292,42,1,[(3,0,0),(4,0,0),(0,0,7168368)]),(0,27753,0,2,[(1,0,0),(0,6,0)]),(0,7304564,61,1,[(1,0,0),(0,7,0)]),(0,27753,0,2,[(1,0,0),(0,2,0)]),(0,7304564,61,1,[(1,0,0),(0,9,0)]),(0,27753,0,2,[(1,0,0),(0,100,0)]),(0,7304564,61,1,[(1,0,0),(0,3,0)]),(0,27753,0,2,[(1,0,0),(0,640,0)]),(0,1668510327,59,1,[(1,0,0),(0,2,0)]),(0,27753,0,2,[(1,0,0),(0,21,0)]),(0,1668510327,59,1,[(1,0,0),(0,0,0)]),(0,1701995892,57,1,[]),(29380524337030514,1668510327,59,1,[(1,0,0),(0,5,0)]),(0,1668510322,58,1,[(1,0,0),(0,3,0)]),(0,1936487529,23,1,[(1,0,0),(1,0,0),(0,16,0)]),(0,6448497,40,1,[(1,0,0),(0,0,0),(0,0,6910577)]),(0,1668510322,58,1,[(1,0,0),(0,2,0)]),(0,1633969257,16,1,[(1,0,0),(1,0,0),(0,4,0)]),(0,1668510327,59,1,[(1,0,0),(0,2,0)]),(0,26990,60,1,[(3,0,0),(0,2,0)]),(0,7304564,61,1,[(3,0,0),(0,0,0)]),(0,27753,0,2,[(1,0,0),(0,1,0)]),(0,7304564,61,1,[(1,0,0),(0,4,0)]),(0,27753,0,2,[(1,0,0),(0,7,0)]),(0,7304564,61,1,[(1,0,0),(0,5,0)]),(0,1634624617,17,1,[(1,0,0),(2,0,0),(0,1,0)]),(0,1633969257,16,1,[(1,0,0),(1,0,0),(0,1,0)]),(0,7304564,61,1,[(1,0,0),(0,6,0)]),(0,1668510322,58,1,[(1,0,0),(0,5,0)]),(0,1701995892,57,1,[]),(6910577,26990,60,1,[(1,0,0),(0,0,0)]),(0,7304564,61,1,[(1,0,0),(0,0,0)]),(0,7304564,61,1,[(0,0,0),(0,6,0)]),(0,7304564,61,1,[(0,0,0),(0,9,0)]),(0,27753,0,2,[(1,0,0),(0,6,0)]),(0,7304564,61,1,[(1,0,0),(0,7,0)]),(0,27753,0,2,[(1,0,0),(0,2,0)]),(0,7304564,61,1,[(1,0,0),(0,9,0)]),(0,26990,60,1,[(1,0,0),(0,2,0)]),(0,1633969257,16,1,[(1,0,0),(1,0,0),(0,20,0)]),(0,7304564,61,1,[(1,0,0),(0,3,0)]),(0,26990,60,1,[(1,0,0),(0,10,0)]),(0,7304564,61,1,[(1,0,0),(0,10,0)]),(0,1668510322,58,1,[(1,0,0),(0,5,0)]),(0,1701995892,57,1,[])]
def agC:List (Int × Int × Nat)->List SV
 | []=> []
 | (r,n,l)::a=> .i r:: .i n::nb l::agC a
def agS (k:Nat):List (Int × Int × Nat)->SV
 | []=> .nilsl
 | a=> .sl k 0 a.length
def agR:List (Int × Int × Nat)->List Row
 | []=> []
 | a=> [⟨true,3,agC a⟩]
def prO:Lk->Res
 | (l,w,o,s,a)=>⟨.tup [.s (nb l),.agg [nb w,.i o,agS 0 a,.i 0,.i 0,.i s],.s (.bool true)],[],agR a⟩
def prR (i:Nat):Res:=prO (lnD.getD i (0,0,0,0,[]))
noncomputable def lnT:Nat->List CE
 | 0=> []
 | n+1=>⟨66,lnK n,prR n⟩::lnT n
theorem lnS {n:Nat} (h:Qda (lnT n)) (k:QnT eqt tys true fns wdC 100 20 66 [.s (.str ⟨⟨lnK n⟩⟩)] []=some (prR n):=by kernel_rfl):Qda (lnT (n+1)):=⟨QmO k,h⟩
theorem QIN:Qda (lnT 6):=by (iterate 6 refine lnS ?_);exact trivial
theorem QF8:Qda (lnT 12):=by (iterate 6 refine lnS ?_);exact QIN
theorem QF9:Qda (lnT 18):=by (iterate 6 refine lnS ?_);exact QF8
theorem QGa:Qda (lnT 24):=by (iterate 6 refine lnS ?_);exact QF9
theorem QGb:Qda (lnT 30):=by (iterate 6 refine lnS ?_);exact QGa
theorem QGc:Qda (lnT 36):=by (iterate 6 refine lnS ?_);exact QGb
theorem QGd:Qda (lnT 42):=by (iterate 6 refine lnS ?_);exact QGc
theorem QGe:Qda (lnT 48):=by (iterate 6 refine lnS ?_);exact QGd
theorem QGf:Qda (lnT 54):=by (iterate 6 refine lnS ?_);exact QGe
theorem QCc:Qda (lnT 60):=by (iterate 6 refine lnS ?_);exact QGf
noncomputable def QHL:Nat->List SV->List SV
 | 0,l=>l
 | n+1,l=>QHL n (.str ⟨⟨lnK n⟩⟩::l)
noncomputable def QHM:Res:=⟨.a (.s (.sl 0 0 60)),[],[⟨true,1,QHL 60 []⟩]⟩
theorem Qx5:QnT eqt tys true fns QCi 2000 20 65 [.s (.str srcK)] []=some QHM:=by kernel_rfl
noncomputable def rdT:List CE:=⟨65,srcK.data.toList,QHM⟩::lnT 60
theorem QCB:Qda rdT:=⟨Qj5 Qx5,QCc⟩
noncomputable def rdC:Ctr Tryz.prog:=⟨ctA rdT,Qpj QCB⟩
def rdK:List Lk->Int->Int->Nat->List SV
 | [],_,_,_=> []
 | (_,w,o,s,a)::l,i,t,k=>nb w:: .i o::agS k a:: .i i:: .i t:: .i s::rdK l (i+1) (t+s) (k+(agR a).length)
def rdL:List Lk->Int->List SV
 | [],_=> []
 | (0,_,_,s,_)::l,t=>rdL l (t+s)
 | (n,_,_,s,_)::l,t=>nb n:: .u (4*t)::rdL l (t+s)
def rdA:List Lk->List Row
 | []=> []
 | (_,_,_,_,a)::l=>agR a++rdA l
def rdR:Res:=⟨.tup [.s (.sl 0 0 3),.s (.sl 1 0 60),.agg [.i 0,.i 0]],[],⟨true,2,rdL lnD 0⟩::⟨true,6,rdK lnD 1 0 2⟩::rdA lnD⟩
theorem QCC:QnT eqt tys true fns rdC 2000 20 31 [.s (.str srcK)] []=some rdR:=by kernel_rfl
def kws:List Nat:= [403701760,303104152,990904321,403701760,303104031,990904327,403701760,303104004,990904326,404750336,304218624,405798912,305332224,406847488,306446344,340983816,307560455,342032386,23461890,592838656,271777793,708116474,403701760,303104006,1024458759,403701760,303104002,1024458761,403701760,303104100,1024458755,403701760,303104640,990904322,403701760,303104021,990904320,956301312,990904325,974127107,386990096,672137233,974127106,269549572,990904322,1009778690,1026555904,403701760,303104001,1024458756,403701760,303104007,1024458757,286392321,269549569,1024458758,974127109,956301312,1007681536,1024458752,1023410182,1023410185,403701760,303104006,1024458759,403701760,303104002,1024458761,1007681538,269549588,1024458755,1007681546,1024458762,974127109,956301312]
noncomputable def asT:List CE:= [⟨31,srcK.data.toList,rdR⟩]
theorem QA5:Qda asT:=⟨QmO QCC,trivial⟩
noncomputable def asC:Ctr Tryz.prog:=⟨ctA asT,Qpj QA5⟩
theorem QwI:QnT eqt tys true fns asC 2000 20 14 [.s (.str srcK)] []=some ⟨.tup [.s (.sl 0 0 75),.agg [.i 0,.i 0]],[],[⟨true,1,wsv kws⟩]⟩:=by kernel_rfl
theorem QA6:FN 14 [.s (.str srcK)] [] (. =⟨.tup [.s (.sl 0 0 75),.agg [.i 0,.i 0]],[],[⟨true,1,wsv kws⟩]⟩):=QmO QwI
theorem QBi (x:Int):bits .and .i64 x 4294967295=x%4294967296:=by
 have e:((BitVec.ofInt 64 x) &&& (BitVec.ofInt 64 4294967295)).toNat=(x%4294967296).toNat:=by
  rw [BitVec.toNat_and,show (BitVec.ofInt 64 4294967295).toNat=2^32-1 by simp [BitVec.toNat_ofInt],Nat.and_two_pow_sub_one_eq_mod,BitVec.toNat_ofInt];simp only [Nat.reducePow];omega
 show IntKind.i64.wrap (((BitVec.ofInt 64 x) &&& (BitVec.ofInt 64 4294967295)).toNat:Int)=_;rw [e,Qb4 (by omega) (by omega)];omega
def cw (x:Int):Nat:=if x%17=0 then (x%4294967296).toNat else QAv (QfP x)
theorem QFG (x:Int):cw x<4294967296:=by
 unfold cw;split
 .omega
 .exact (Qpy x).2.1
def QbR (ls:List Int):List Nat:=ls.map cw
def QBg (n:Nat) (L:List SV) (i:Nat) (R:List SV):St :=
 ⟨[(0,.a (.s (.sl 0 0 n))),(3,.a (.s (.sl 1 0 i))),(4,.a (.s (.i i)))],[(0,some ⟨false,1,L⟩),(1,some ⟨true,1,R⟩)],[0]⟩
theorem Qjh (ls:List Int):(QbR ls).length=ls.length:=by unfold QbR;rw [List.length_map]
theorem Qmb (ls:List Int):∀ y∈QbR ls,y<4294967296:=fun y hy=>by
 obtain ⟨x,_,rfl⟩:=List.mem_map.1 hy;exact QFG x
theorem Qo9 (ls:List Int) (n:Nat) (hn:ls.length=n) (vI:n*8<=140737488351232):FN 19 [.s (.sl 0 0 n)] [⟨false,1,isv .i64 ls⟩] (. =⟨.a (.s (.sl 1 0 n)),[],[⟨true,1,wsv (QbR ls)⟩]⟩):=by
 have fK:=QaM .i64 ls;refine fnW Tryz.func19 ?_;(conv=>whnf);(repeat' ((first|exact zi0|refine zj0 fun hb=>?_|refine zs0 ?_|refine zbb ?_ ?_)<;>conv=>whnf))
 refine Lp.inv (fun mm σ=>∃ (i:Nat),mm+i=n/\σ=QBg n (isv .i64 ls) i (wsv (QbR (ls.take i)))) ?_ ?_
 .refine ⟨n,QBg n (isv .i64 ls) 0 [],?_,0,by omega,by rw [List.take_zero];rfl⟩
  apply Qcg (m:= [(0,some 0),(1,none)])
  .repeat' (first|exact QaY|apply QaN)
   all_goals exact Qz6
  .show HlS _ _ [] _
   refine Qas (Qan rfl rfl rfl rfl (Qaj fK)) ?_;refine Qas (QcU rfl rfl) ?_;exact QaL
  .rfl
 .rintro mm σ ⟨i,zA,rfl⟩
  unfold QBg
  by_cases hi:i<n
  .obtain ⟨x,hx⟩:∃ x,ls[i]?=some x:=⟨ls[i]'(by omega),zgg (by omega)⟩
   have HG:(isv .i64 ls)[0+((i:Nat):Int).toNat * 1]?=some (.i x):=by
    rw [Nat.zero_add,Nat.mul_one,Int.toNat_natCast,Qim .i64 ls i (by omega)];rw [zgd,hx];rfl
   have jT:QbR (ls.take (i+1))=QbR (ls.take i)++ [cw x]:=by
    unfold QbR;rw [List.take_add_one,hx,List.map_append];rfl
   have gF:(wsv (QbR (ls.take i))).length=i:=by simp [QbR];omega
   have jH:wsv (QbR (ls.take i))++ [.u (cw x:Nat)]=wsv (QbR (ls.take (i+1))):=by rw [jT,QiT];rfl
   have vT:=Qaa (QbR (ls.take (i+1)));have q2:IntKind.i64.wrap ((i:Int)+1)=((i+1:Nat):Int):=QaS;have hi1:=Qx0 x;have he:=Qpy x;obtain ⟨WF,_,o,a,b,c,m,he3⟩:=he;have a32:=QBi x;have WC:x%17=0->x%4294967296=((cw x:Nat):Int):=fun h=>by unfold cw;rw [zP h];omega
   have GR:x%17≠0->cw x=QAv (QfP x):=fun h=>by unfold cw;rw [zN h]
   have hm17:∀ t:Int,x.tmod 17=t->(t=0↔x%17=0):=fun t h=>by
    rw [<- h,Int.tmod_eq_emod];split<;>omega
   rw [he3] at hi1 WF GR;generalize wF:QbR (ls.take (i+1))=R2,wsv (QbR (ls.take i))=RR at *;generalize hRM:wsv R2=RM,QAv (iv o a b c m)=E,cw x=CW,isv .i64 ls=LL at *
   by_cases h17:x%17=0
   .have t17:x.tmod 17=0:=by rw [Int.tmod_eq_emod];split<;>omega
    have g1:=WC h17;rw [g1] at a32;have g2:IntKind.u32.wrap ((CW:Nat):Int)=((CW:Nat):Int):=Qe7 (by omega) (by omega);unfold iv at hi1 WF;(conv=>whnf);(repeat' ((first|exact zi0|refine zj0 fun hb=>?_|(with_reducible first|refine zv q2 ?_|refine zv t17 ?_|refine zv a32 ?_|refine zv g2 ?_)|refine QH9 ?_|refine QDv ?_|refine Qu8 ?_|refine zs0 ?_|refine zbb ?_ ?_)<;>conv=>whnf))
    all_goals first
     | (
       refine ⟨mm-1,QBg n LL (i+1) RM,by omega,?_,i+1,by omega,by rw [wF,hRM];rfl⟩;apply Qcg (m:= [(0,some 0),(1,some _)])
       .repeat' (first|exact QaY|apply QaN)
        all_goals exact QsM
       .show HlS _ _ [] _
        refine Qas (Qan rfl rfl rfl rfl (Qaj fK)) ?_;refine Qas (Qan rfl rfl rfl rfl (Qaj vT)) ?_;exact QaL
       .rfl)
   .have t17:(x.tmod 17==0)=false:=by
     rw [beq_eq_false_iff_ne,Int.tmod_eq_emod];split<;>omega
    have g3:=GR h17;subst g3;unfold iv at hi1 WF;(conv=>whnf);(repeat' ((first|exact zi0|refine zj0 fun hb=>?_|(with_reducible first|refine zv q2 ?_|refine zv rfl ?_)|refine QH9 ?_|refine QDv ?_|refine Qu8 ?_|((with_reducible apply Vl.mk (α:=Bool)); . with_reducible exact t17)|(refine Qad (f:=41) (hi1) rfl ?_)|(refine Qad (f:=33) (WF) rfl ?_)|refine zs0 ?_|refine zbb ?_ ?_)<;>conv=>whnf))
    all_goals first
     | (
       refine ⟨mm-1,QBg n LL (i+1) RM,by omega,?_,i+1,by omega,by rw [wF,hRM];rfl⟩;apply Qcg (m:= [(0,some 0),(1,some _)])
       .repeat' (first|exact QaY|apply QaN)
        all_goals exact QsM
       .show HlS _ _ [] _
        refine Qas (Qan rfl rfl rfl rfl (Qaj fK)) ?_;refine Qas (Qan rfl rfl rfl rfl (Qaj vT)) ?_;exact QaL
       .rfl)
  .have JY:i=n:=by omega
   subst JY;rw [<- hn,List.take_length];have vT:=Qaa (QbR ls);generalize wsv (QbR ls)=RR,isv .i64 ls=LL at *;exact QAk
theorem Qge (ws:List Nat) (h:ws.length<=256):Qbg (Qhl ws)=true:=by
 have hl:(Qhl ws).m.length=256:=Qgy ws h;unfold Qbg;rw [hl];unfold Qhl;dsimp only
 have hd:QbP ⟨4,0,0,0,0,0,0,⟨#[]⟩⟩ ((mpg 256:Nat):Int)=true:=by
  unfold QbP;exact zdt ⟨by decide,by decide,by decide,fun _=>⟨rfl,rfl,rfl,by unfold noD;exact beq_self_eq_true _⟩,fun h=>by exact absurd h (by decide)⟩
 exact zdt ⟨by decide,by decide,by decide,by decide,by decide,by decide,by rfl,by rfl,hd,by rfl,by rfl,by decide,by decide⟩
def asQ (R:Res):Prop:=∃ (ws:List Nat) (e:Int) (l:Int),ws.length<=200/\(ZL ws)/\ws=kws/\R=⟨.tup [.s (.sl 0 0 ws.length),.agg [.i e,.i l]],[],[⟨true,1,wsv ws⟩]⟩
def mcQ (R:Res):Prop:=∃ M:Mc,M.ok/\(M.m.length=256/\Qbg M=true)/\R=⟨.a (.agg (M.C 1)),[],[⟨true,1,wsv M.m⟩]⟩
def QsQ (n k:Nat) (kd:Int) (A0 Z X:List SV):St :=
 ⟨[(0,.a (.s (.i kd))),(1,.a (.s (.sl 0 0 n))),(4,.a (.s (.ptr 1 0))),(5,.a (.s (.sl 2 0 k)))],[(0,some ⟨false,1,A0⟩),(1,some ⟨true,1,Z⟩),(2,some ⟨true,1,X⟩)],[0]⟩
theorem QCa:ZL kws:=by decide
theorem QIw:FN 14 [.s (.str srcK)] [] asQ:=QBV QA6 fun R h=>⟨kws,0,0,by decide,QCa,rfl,h⟩
theorem QqK:kws++zer 85=kA++([0,0,0,0,0,0,0,0]++zer 24):=by decide
theorem QCh (cl:List Nat) (n:Nat) (gK:cl.length=n) (hn:n<=40):Qhl ((kws++zer 85)++cl)=kS0 (cl++zer (96-n)):=by
 have h1:((kws++zer 85)++cl).length=160+n:=by
  rw [zla,gK,zla,QdJ];rfl
 have e:cpW ((kws++zer 85)++cl)=kA++([0,0,0,0,0,0,0,0]++(zer 24++(cl++zer (96-n)))):=by
  unfold cpW;rw [h1,show 256-(160+n)=96-n by omega,QqK];simp only [List.append_assoc]
 unfold Qhl;rw [e];rfl
theorem QGh (cl:List Nat) (n:Nat) (gK:cl.length=n) (hn:n<=40):∃ I:Mc->Prop,I (Qhl ((kws++zer 85)++cl))/\(∀ M:Mc,M.ok->I M->M.ct<87->M.ht=false->Qhk M=false->QmH M=false/\I (Qbh M 0).1)/\∀ M,I M->M.m.length=256/\Qbg M=true:=by
 have FW:=Qge ((kws++zer 85)++cl) (by rw [zla,gK,zla,QdJ];show 75+85+n<=256;omega);rw [QCh cl n gK hn] at FW |-;have hu:(cl++zer (96-n)).length=96:=by rw [zla,gK,QdJ];omega
 generalize cl++zer (96-n)=u at *;refine ⟨fun M=>M∈kS0 u::(kL u++ [QF3 u])/\M.m.length=256/\Qbg M=true,⟨List.mem_cons_self ..,?_,FW⟩,fun M hM ⟨hm,hl,hy⟩ fM wT ZW=>?_,fun M h=>h.2⟩
 .show (kA++([0,0,0,0,0,0,0,0]++(zer 24++u))).length=256
  rw [zla,zla,zla,hu,QdJ];rfl
 .rcases Qo3 256 (QF3 u) (kL u) (kS0 u) M (kC u) hm with rfl|⟨M',h1,h2⟩
  .exact absurd fM (by show ¬ (87<87);omega)
  .obtain ⟨h3,h4⟩:=QwD hM hl h1
   refine ⟨h3,by rw [h4];exact h2,by rw [Qez M hM 0,hl],QhY M hM 0 hy (by unfold Qb3;rw [hy,wT,ZW,zdf (by omega)];rfl)⟩
theorem Qlg (kind:Int) (ls:List Int) (n:Nat) (hn:ls.length=n) (vI:n<=40) (h2:kind%3=2):FN 7 [.s (.i kind),.s (.sl 0 0 n)] [⟨false,1,isv .i64 ls⟩] mcQ:=by
 have q0:=Qd6 kind 3 (by decide) (by decide);rw [h2] at q0;have q1:=Qo9 ls n hn (by omega);have hsA:=QaM .i64 ls;have gK:(QbR ls).length=n:=by rw [Qjh,hn]
 have gA:=Qmb ls;have fK:=Qaa (QbR ls);have WH:=QbF (QbR ls);have uP:(wsv (QbR ls)).length=n*ty26.size:=by rw [wsv_length,gK];show n=n*1;omega
 generalize isv .i64 ls=A0,QbR ls=cl at *;have q2:=Qq5 cl n gK (by omega);have hok:=Qq7 cl (by omega) gA;have GH:=Qaa (Qhl cl).m;have jI:mcQ ⟨.a (.agg ((Qhl cl).C 1)),[],[⟨true,1,wsv (Qhl cl).m⟩]⟩:=⟨Qhl cl,hok,⟨Qgy cl (by omega),Qge cl (by omega)⟩,rfl⟩;unfold Qhl at q2 GH jI;clear hok;generalize wsv cl=X1 at *;dsimp only [Mc.C,Mc.D,Dk.C,Nk.C] at *;simp only [Qaf,zca,zna] at *;generalize (cpW cl).length=nn,wsv (cpW cl)=X2 at *;refine fnW Tryz.func7 ?_;(conv=>whnf);(repeat' ((first|exact zi4|refine zj4 fun hb=>?_|(apply Sd.mk; . first|exact ⟨rfl,rfl,rfl,bnd (by omega) (by decide),by omega⟩)|(apply Sk.mk; . exact QcB X1 uP WH)|(refine zpu q0 ?_)|(refine QaA q1 ?_)|(refine QaA q2 ?_)|refine zse ?_|refine zbb ?_ ?_)<;>conv=>whnf))
 all_goals first|(refine Qjt jI ?_;(exact QbJ))
theorem QjI (hA:FN 14 [.s (.str srcK)] [] asQ) (kind:Int) (ls:List Int) (n:Nat) (hn:ls.length=n) (vI:n<=40) (h2:kind%3<2):FN 7 [.s (.i kind),.s (.sl 0 0 n)] [⟨false,1,isv .i64 ls⟩] mcQ:=by
 have q0:=Qd6 kind 3 (by decide) (by decide);have hk0:0<=kind%3:=by omega
 have q1:=Qo9 ls n hn (by omega);have hsA:=QaM .i64 ls;have gK:(QbR ls).length=n:=by rw [Qjh,hn]
 have gA:=Qmb ls;have fK:=Qaa (QbR ls);have WH:=QbF (QbR ls);have uP:(wsv (QbR ls)).length=n*ty26.size:=by rw [wsv_length,gK];show n=n*1;omega
 generalize isv .i64 ls=A0,QbR ls=cl,kind%3=kd at *;obtain ⟨Z,hZ⟩:∃ Z,Z41=Z:=⟨_,rfl⟩;have KR:Z.length=49:=by rw [<- hZ];rfl
 have wH:Qao Z=true:=by rw [<- hZ];rfl
 refine fnW Tryz.func7 ?_;(conv=>whnf);(repeat' ((first|exact zi4|refine zj4 fun hb=>?_|(refine zpu q0 ?_)|(refine Qgm hA [] [] ?_ trivial trivial ?_ ?_;(focus kernel_rfl);(focus (rintro R ⟨ws,e,l,_,_,_,rfl⟩;exact ⟨(by show 1<=Qaq;decide),fun p h=>by cases h⟩));rintro R ⟨ws,ee,el,zS,wO,FB,rfl⟩)|refine zse ?_|refine zbb ?_ ?_)<;>conv=>whnf))
 all_goals try (first|(exfalso;omega)|(exfalso;simp at hb;done))
 refine Lp.inv (fun mm σ=>∃ img:List Nat,mm=160-img.length/\img.length<=160/\(75<=img.length/\img=kws++zer (img.length-75))/\(ZL img)/\σ=QsQ n img.length kd A0 Z (wsv img)) ?_ ?_
 .refine ⟨160-ws.length,QsQ n ws.length kd A0 Z (wsv ws),?_,ws,rfl,(by rw [FB];decide),(by rw [FB];exact ⟨by decide,rfl⟩),wO,rfl⟩
  have hsw:=Qaa ws;generalize wsv ws=W,ws.length=k at *;clear FB;rw [<- hZ];unfold QsQ Z41
  (exact zwL [(0,some 0),(1,some 65536),(2,some 327680)])
 clear zS wO FB;rintro mm σ ⟨img,yF,KY,⟨hi75,YN⟩,yC,rfl⟩;have hsi:=Qaa img;have hki:=QbF img;have yM:(wsv img).length=img.length*ty26.size:=by rw [wsv_length];show _=img.length*1;omega
 by_cases gU:img.length<160
 .have hap:wsv img++ [.u 0]=wsv (img++ [0]):=by rw [QiT];rfl
  have hl2:(img++ [0]).length=img.length+1:=by simp
  have hr2:∀ y∈img++ [0],y<4294967296:=fun y hy=>by
   rcases List.mem_append.1 hy with h|h
   .exact yC y h
   .rcases List.mem_singleton.1 h with rfl
    decide
  have gO:=Qaa (img++ [0]);have hik2:img++ [0]=kws++zer ((img++ [0]).length-75):=by rw [hl2,show img.length+1-75=(img.length-75)+1 by omega,QlX,<- List.append_assoc,<- YN];rfl
  clear YN;have vP:QsQ n (img.length+1) kd A0 Z (wsv (img++ [0]))=QsQ n (img++ [0]).length kd A0 Z (wsv (img++ [0])):=by rw [hl2]
  generalize hW2:wsv (img++ [0])=W2,wsv img=W at *;unfold QsQ;(conv=>whnf);(repeat' ((first|exact zi4|refine zj4 fun hb=>?_|(apply Sd.mk; . exact ⟨rfl,rfl,yM,bnd (by omega) (by decide),by omega⟩)|((with_reducible apply Vl.mk (α:=List SV)); . with_reducible exact hap)|refine zse ?_|refine zbb ?_ ?_)<;>conv=>whnf))
  all_goals first|(refine ⟨160-(img.length+1),QsQ n (img.length+1) kd A0 Z W2,by omega,?_,img++ [0],by rw [hl2],by rw [hl2];omega,⟨by rw [hl2];omega,hik2⟩,hr2,by unfold QsQ;rw [hW2,hl2]⟩;generalize img.length=k at *;unfold QsQ;(exact zwL [(0,some 0),(1,some 1),(2,some 131200)]))
 .have hap:wsv img++wsv cl=wsv (img++cl):=(QiT img cl).symm
  have hl2:(img++cl).length=img.length+n:=by rw [zla,gK]
  have hr2:∀ y∈img++cl,y<4294967296:=fun y hy=>by
   rcases List.mem_append.1 hy with h|h
   .exact yC y h
   .exact gA y h
  have gO:=Qaa (img++cl);have q2:=Qq5 (img++cl) (img.length+n) hl2 (by omega);have hok:=Qq7 (img++cl) (by omega) hr2;have GH:=Qaa (Qhl (img++cl)).m;obtain ⟨I,GN,hI1,hI2⟩:=QGh cl n gK vI;rw [show img.length=160 by omega] at YN;rw [<- (show img=kws++zer 85 from YN)] at GN;have hR:=QyT I (Qhl (img++cl)) hok (Qge _ (by omega)) rfl GN hI1;have jI:mcQ ⟨.a (.agg ((Qhl (img++cl)).C 1)),[],[⟨true,1,wsv (Qhl (img++cl)).m⟩]⟩:=⟨Qhl (img++cl),hok,⟨Qgy _ (by omega),Qge _ (by omega)⟩,rfl⟩;unfold Qhl at q2 GH jI hR;clear hok hr2 hl2 yC gA yF GN hI1 YN hi75;generalize wsv (img++cl)=W2,wsv img=W,wsv cl=X1 at *;dsimp only [Mc.C,Mc.D,Dk.C,Nk.C] at *;simp only [Qaf,zca,zna] at *;generalize (cpW (img++cl)).length=nn,wsv (cpW (img++cl))=X2,img.length=k at *;unfold QsQ;have e:kd=0\/kd=1:=by omega
  rcases e with rfl|rfl
  .skip
   (conv=>whnf);(repeat' ((first|exact zi4|refine zj4 fun hb=>?_|refine QH2 ?_|(apply Sk.mk; . exact QcB X1 uP WH)|refine QIa ?_|(refine QaA q1 ?_)|(refine QaA q2 ?_)|refine zse ?_|refine zbb ?_ ?_)<;>conv=>whnf))
   all_goals first|(refine Qjt jI ?_;(exact QbJ))
  .skip
   (conv=>whnf);(repeat' ((first|exact zi4|refine zj4 fun hb=>?_|refine QH2 ?_|(apply Sk.mk; . exact QcB X1 uP WH)|refine QIa ?_|(refine QaA q1 ?_)|(refine QaA q2 ?_)|(refine Qgm hR [⟨_,0⟩] [(_,_)] aRn ⟨rfl,trivial⟩ ⟨rfl,Qap (by assumption),trivial⟩ ?_ ?_;(focus (rintro R ⟨M3,os,_,_,_,rfl⟩;exact ⟨(by show 2<=Qaq;decide),fun p h=>by cases h⟩));rintro R ⟨M3,os3,VW,hok3,hos3,rfl⟩;have jC:=hI2 M3 VW;have gZ:=Qaa M3.m;have hfinQ3:mcQ ⟨.a (.agg (M3.C 1)),[],[⟨true,1,wsv M3.m⟩]⟩:=⟨M3,hok3,jC,rfl⟩;clear VW jC;have UJ:=hok3.x;have JP:=hok3.c;obtain ⟨_,_,_⟩:=Qax hos3;generalize OLs os3=OL3 at *;generalize os3.length=ol3 at *;clear hok3 hos3;generalize wsv M3.m=X3 at *;obtain ⟨_,_,_,mg,_,_,_,_,dg,ng,_,_,_,_,_⟩:=M3;dsimp only at *;cases QaJ UJ;cases zC8 JP;cases dg;cases ng;simp only [Qaf,zca,zna,Mc.C,Mc.D,Dk.C,Nk.C] at *;generalize mg.length=nn3 at *)|refine zse ?_|refine zbb ?_ ?_)<;>conv=>whnf))
   all_goals first|(refine Qjt hfinQ3 ?_;(exact QbJ))
theorem QnA (kind:Int) (ls:List Int) (n:Nat) (hn:ls.length=n) (vI:n<=40):FN 7 [.s (.i kind),.s (.sl 0 0 n)] [⟨false,1,isv .i64 ls⟩] mcQ:=by
 by_cases h:kind%3=2
 .exact Qlg kind ls n hn vI h
 .exact QjI QIw kind ls n hn vI (by omega)
theorem Qxm (kind:Int) (ls ps:List Int) (nl na:Nat) (bu:Int) (h:¬ (nl<=40/\na<=30)) :
  FN 3 [.s (.i kind),.s (.sl 0 0 nl),.s (.sl 1 0 na),.s (.w bu)] [⟨false,1,isv .i64 ls⟩,⟨false,1,isv .i64 ps⟩] (. =⟨.a (.s (.bool true)),[],[]⟩):=by
 have ca:=Qhw;have jV:=QaM .i64 ls;have fD:=QaM .i64 ps;generalize isv .i64 ls=A0,isv .i64 ps=A1 at *;have cf:=QvR nl na A0 A1 jV fD false (by rw [<- Bool.decide_and];exact (zdf h).symm);refine fnW Tryz.func3 ?_;(repeat' ((conv=>whnf);first|exact zi4|refine zj4 fun hb=>?_|(refine QfS cf ?_)|(refine zpu ca ?_)|refine zse ?_|refine zbb ?_ ?_))
 all_goals exact QsE
theorem Qtu (kind:Int) (ls ps:List Int) (nl na:Nat) (bu:Int) (hbu:0<=bu) (hn:ls.length=nl) (hp:ps.length=na) (h1:nl<=40) (h2:na<=30) :
  FN 3 [.s (.i kind),.s (.sl 0 0 nl),.s (.sl 1 0 na),.s (.w bu)] [⟨false,1,isv .i64 ls⟩,⟨false,1,isv .i64 ps⟩] (. =⟨.a (.s (.bool true)),[],[]⟩):=by
 have ca:=Qhw;have cm:=QnA kind ls nl hn h1;obtain ⟨k,hk⟩:∃ k:Nat,bu%60=(k:Int):=⟨(bu%60).toNat,by omega⟩;have hk9:k<=59:=by omega
 have tm1:Int.tmod bu 60=(k:Int):=by rw [Int.tmod_eq_emod_of_nonneg hbu,hk]
 have jV:=QaM .i64 ls;generalize isv .i64 ls=A0 at *;obtain ⟨A1,wR⟩:∃ A,isv .i64 ps=A:=⟨_,rfl⟩;have fD:Qao A1=true:=wR ▸ QaM _ _;rw [wR];have cf:=QvR nl na A0 A1 jV fD true (by rw [zdt h1,zdt h2];rfl);refine fnW Tryz.func3 ?_;(repeat' ((conv=>whnf);first|exact zi4|refine zj4 fun hb=>?_|(with_reducible refine zv tm1 ?_)|(refine Qgm cm [⟨0,0⟩] [(0,⟨false,1,A0⟩)] aRn ⟨rfl,trivial⟩ ⟨rfl,Qap (by assumption),trivial⟩ ?_ ?_;(focus (rintro R ⟨M,_,_,rfl⟩;exact ⟨(by show 1<=Qaq;decide),fun p h=>by cases h⟩));rintro R ⟨Mq,hM,⟨FE,hMm⟩,rfl⟩;have cu:=QzL Mq hM FE hMm ps na hp h2;rw [wR] at cu;have hsM:=Qaa Mq.m;have qxl:=hM.x;have qcl:=hM.c;clear hM FE hMm;obtain ⟨_,_,_,qm,_,_,_,_,qf,qn,_,_,_,_,_⟩:=Mq;cases qf;cases qn;dsimp only at qxl qcl;cases QaJ qxl;cases zC8 qcl;dsimp only [Mc.C,Mc.D,Dk.C,Nk.C] at cu |-;simp only [Qaf,zca,zna] at cu |-;generalize qm.length=qnn at *;generalize wsv qm=qX at *)|(refine Qgm cu [⟨196736,0⟩,⟨1,0⟩] [(196736,_),(1,_)] aRn ⟨rfl,rfl,trivial⟩ ⟨rfl,Qap (by assumption),rfl,Qap (by assumption),trivial⟩ ?_ ?_;(focus (rintro R ⟨E,_,_,_,rfl⟩;exact ⟨(by show 3<=Qaq;decide),fun p h=>by cases h⟩));rintro R ⟨E,hE,hC,JB,rfl⟩;obtain ⟨Ma,os,_,T1,T2,B1,B2,hMa,jM,c1,c2,c3,c4,c5,c6,c7⟩:=Qtt E hE hC JB k hk9;have he0:Qao ([]:List SV)=true:=rfl;have WF:=Qaa E.M.m;have KV:=Qae E.T;have he3:=Qac E.B;have ha1:=Qaa Ma.m;have ha2:=Qae T1;have ha3:=Qae T2;have KT:=Qac B1;have ha5:=Qac B2;have ha6:=(Qax jM).2.1;have exl:=hE.M.x;have ecl:=hE.M.c;have axl:=hMa.x;have acl:=hMa.c;clear hE hC JB hMa jM cu;obtain ⟨Me,eT,eB,_,_,_⟩:=E;dsimp only [Eg.V] at *;generalize eT.length=etn at *;generalize eB.length=ebn at *;generalize T1.length=t1n at *;generalize T2.length=t2n at *;generalize B1.length=b1n at *;generalize B2.length=b2n at *;generalize os.length=osn at *;generalize tes eT=eTT at *;generalize bks eB=eBB at *;generalize tes T1=T1T at *;generalize tes T2=T2T at *;generalize bks B1=B1B at *;generalize bks B2=B2B at *;generalize OLs os=OSS at *;obtain ⟨_,_,_,em,_,_,_,_,ef,en,_,_,_,_,_⟩:=Me;cases ef;cases en;dsimp only at exl ecl;cases QaJ exl;cases zC8 ecl;obtain ⟨_,_,_,am,_,_,_,_,af,an,_,_,_,_,_⟩:=Ma;cases af;cases an;dsimp only at axl acl;cases QaJ axl;cases zC8 acl;dsimp only [Mc.C,Mc.D,Dk.C,Nk.C] at c1 c2 c3 c4 c5 c6 c7 |-;simp only [Qaf,zca,zna] at c1 c2 c3 c4 c5 c6 c7 |-;generalize em.length=emn at *;generalize wsv em=emX at *;generalize am.length=amn at *;generalize wsv am=amX at *)|(refine QaA c2 ?_)|(refine QaA c3 ?_)|(refine QfS c6 ?_)|(refine QfS c7 ?_)|(refine QcD c1 ?_)|(refine QcD c4 ?_)|(refine QcD c5 ?_)|(refine QfS cf ?_)|(refine zpu ca ?_)|refine zse ?_|refine zbb ?_ ?_))
 all_goals exact QsE
theorem esl_fn (kind:Int) (ls ps:List Int) (nl na:Nat) (bu:Int) (hbu:0<=bu) (hn:ls.length=nl) (hp:ps.length=na) :
  FN 3 [.s (.i kind),.s (.sl 0 0 nl),.s (.sl 1 0 na),.s (.w bu)] [⟨false,1,isv .i64 ls⟩,⟨false,1,isv .i64 ps⟩] (. =⟨.a (.s (.bool true)),[],[]⟩):=by
 by_cases h:nl<=40/\na<=30
 .exact Qtu kind ls ps nl na bu hbu hn hp h.1 h.2
 .exact Qxm kind ls ps nl na bu h
end Go.Proofs.YtpgkkfajljekpabGreat
