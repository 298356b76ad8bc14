import Derived.Test.YtflelebfmdggkaaGreatP149
import Derived.KernelRfl
set_option linter.unusedSimpArgs false
set_option linter.unusedVariables false
set_option maxHeartbeats 100000000
set_option maxRecDepth 1000000
namespace Go.Proofs.YtflelebfmdggkaaGreat
open Go Go.RowKit
structure CE where
 (f:FuncId) (s:List UInt8) (R:Res)
noncomputable def eqU (a:List UInt8):List UInt8→Bool:=List.rec (fun b=>match b with| []=>true|_::_=>false) (fun x _ ih b=>match b with| []=>false|y::b=>match Nat.beq x.toNat y.toNat with|true=>ih b|false=>false) a
theorem Qva:∀ {a b:List UInt8},eqU a b=true→a=b
 | [],[],_=>rfl
 | [],_::_,h=>by cases h
 | _::_,[],h=>by cases h
 | x::a,y::b,h=>by
  change (match Nat.beq x.toNat y.toNat with|true=>eqU a b|false=>false)=true at h;split at h
  ·rename_i hb
   rw [UInt8.toNat_inj.1 (Nat.eq_of_beq_eq_true hb),Qva h]
  ·cases h
noncomputable def ctl (L:List CE) (f:FuncId) (s:List UInt8):Option Res:=List.rec none (fun e _ ih=>match Nat.beq f e.f with|true=>(match eqU s e.s with|true=>some e.R|false=>ih)|false=>ih) L
noncomputable def ctA (L:List CE) (f:FuncId) (args:List AV) (H:List Row):Option Res:=match args,H with
 | [.s (.str b)],[]=>ctl L f b.data.toList
 | _,_=>none
abbrev QIP (e:CE):Prop:=FN e.f [.s (.str ⟨⟨e.s⟩⟩)] [] (· =e.R)
def Qkl:List CE→Prop
 | []=>True
 | e::l=>QIP e∧Qkl l
theorem Qvs:∀ {L:List CE},Qkl L→∀ {f s R},ctl L f s=some R→FN f [.s (.str ⟨⟨s⟩⟩)] [] (· =R)
 | [],_,f,s,R,h=>by cases h
 | e::L,hL,f,s,R,h=>by
  have ih:=Qvs (L:=L) hL.2 (f:=f) (s:=s) (R:=R);change (match Nat.beq f e.f with|true=>(match eqU s e.s with|true=>some e.R|false=>ctl L f s)|false=>ctl L f s)=some R at h;split at h
  ·rename_i hf
   split at h
   ·rename_i hs
    injection h with h
    have:=hL.1;rw [Nat.eq_of_beq_eq_true hf,Qva hs,← h];exact this
   ·exact ih h
  ·exact ih h
theorem Qpe {L:List CE} (hL:Qkl L) (f:FuncId) (args:List AV) (H:List Row) (R:Res) (h:ctA L f args H=some R):FN f args H (· =R):=by
 unfold ctA at h;split at h
 ·rename_i b
  have:=Qvs hL h;obtain ⟨⟨l⟩⟩:=b;exact this
 ·cases h
theorem QaF {Ct:Ctr Tryz.prog} {fuel depth:Nat} {f:FuncId} {args:List AV} {R:Res} (h:QcN eqt tys true fns Ct fuel depth f args []=some R):FN f args [] (· =R):=Qlm Qzn QmD depth f args [] R (fun _ h=>by cases h) h
def wdT:List CE:=([([108,105],0),([99,115,114,119],59),([115,104,108,105],20),([111,114,105],18),([97,100,100],1),([115,119],35),([97,100,100,105],16),([98,108,116],42),([111,117,116],61),([101,114,101,116],57),([99,115,114,114],58),([115,108,116,105],23),([98,101,113],40),([105,110],60),([97,110,100,105],17)].map fun (s,x)=>⟨108,s,⟨.a (.s (.i x)),[],[]⟩⟩)++ [([99,115,114,119],0,false),([104,97,110,100,108,101,114],0,false),([105,110],0,false),([105,114,113],0,false),([109,97,112],0,false),([114,48],0,true),([114,49],1,true),([114,50],2,true),([114,51],3,true),([114,52],4,true),([114,53],5,true),([114,54],6,true),([115,104,108,105],0,false)].map fun (s,x,b)=>⟨173,s,⟨.tup [.s (.i x),.s (.bool b)],[],[]⟩⟩
theorem QDb:Qkl wdT:=by repeat first|exact trivial|refine .intro (Qa4 (fuel:=100) (depth:=20) (by kernel_rfl)) ?_
noncomputable def wdC:Ctr Tryz.prog:=⟨ctA wdT,Qpe QDb⟩
noncomputable def QFH (f:FuncId) (args:List AV) (H:List Row):Option Res:=match args,H with
 | [.s (.int .u32 (.ofNat n))],[]=>match Nat.blt n 4294967296 with
  | true=>(match Nat.beq f 239 with
   | true=>some ⟨.a (.s (.i (QbL n 32:Nat))),[],[]⟩
   | false=>match Nat.beq f 177 with
    | true=>some ⟨.a (.s (.i (blN n:Nat))),[],[]⟩
      | false=>none)
  | false=>none
 | [.agg [.int .u32 (.ofNat t),.int .u32 (.ofNat g)],.s (.int .i64 p)],[]=>match Nat.blt g 4294967296 with
  | true=>(match Nat.beq f 114 with
   | true=>some ⟨.a (.s (.bool (Qb0 g p))),[],[]⟩
   | false=>none)
  | false=>none
 | _,_=>none
theorem Qxk (f:FuncId) (args:List AV) (H:List Row) (R:Res) (h:QFH f args H=some R):FN f args H (· =R):=by
 unfold QFH at h;split at h
 ·rename_i n
  split at h
  ·rename_i hn
   have hn:n<4294967296:=by rw [← Nat.blt_eq];exact hn
   split at h
   ·rename_i hf
    rw [Nat.eq_of_beq_eq_true hf];injection h with h
    subst h;exact Qmt n hn
   split at h
   ·rename_i hf
    rw [Nat.eq_of_beq_eq_true hf];injection h with h
    subst h;exact QiJ n hn
   ·cases h
  ·cases h
 ·rename_i t g p
  split at h
  ·rename_i hn
   have hn:g<4294967296:=by rw [← Nat.blt_eq];exact hn
   split at h
   ·rename_i hf
    rw [Nat.eq_of_beq_eq_true hf];injection h with h
    subst h;exact Qhg t g hn p
   ·cases h
  ·cases h
 ·cases h
noncomputable def QIW:Ctr Tryz.prog:=⟨QFH,Qxk⟩
theorem QkX:QcN eqt tys true fns QIW 1000 20 4 [] []=some ⟨.a (.s (.bool true)),[],[]⟩:=by kernel_rfl
theorem Qhu:FN 4 [] [] (· =⟨.a (.s (.bool true)),[],[]⟩):=QaF QkX
def QIH (M:Mc) (n:Nat):Bool:=decide ((Qda M).getD 0 0%2=1)&&(ld4 n (Qdd M)&&(dOk (QnZ M)&&(decide (dOp (QnZ M)=60)&&decide (dM (QnZ M)=2))))
def QtG (M:Mc) (n:Nat):Ex:=exS M.x (Qdd M) (Qda M) M.m n
def QF9 (M:Mc) (Q:Ex):Mc:= { M with x:=Q.x,pc:=Q.pc,c:=Q.c,m:=Q.m,wt:=false }
def QId (M:Mc) (n:Nat) (p:Int) (v:Nat):Mc × Option (List SV) :=
 if p=0 then (M,some [.i 1,.w M.ct,.u 0,.str (strOfNums [v%256])])
 else if p≤2 then (M,none)
 else if p=3 then ({ M with ta:=decide (¬ (v:Int)=0),td:=v,tf:=false },none)
 else if p≤6 then ({ M with d:=(Qa6 M.d M.m n p v M.ct).1 },(Qa6 M.d M.m n p v M.ct).2)
 else if p≤9 then ({ M with n:=(Qbk M.n M.m n p v M.ct).1 },(Qbk M.n M.m n p v M.ct).2)
 else ({ M with bg:=Qg0 M.bg n p v,m:=QfG M.m M.bg n p v },none)
theorem Qzq {M:Mc} {n:Nat} (h:M.m.length=n) (p:Int) (v:Nat):QId M n p v=Qbz M p v:=by subst h;rfl
def QEJ (M:Mc) (n:Nat):Option Mc :=
 if QIH M n=true then none
 else if eK (QtG M n).e=1 then none
 else if eK (QtG M n).e=2 then some (Qdb (QId (QF9 M (QtG M n)) n (eP (QtG M n).e) (eV (QtG M n).e)).1)
 else if eK (QtG M n).e=3 then none
 else if eK (QtG M n).e=4 then none
 else some (Qdb (QF9 M (QtG M n)))
theorem QwP {M M':Mc} {n:Nat} (hM:M.ok) (hn:M.m.length=n) (h:QEJ M n=some M'):QmB M=false∧(Qbh M 0).1=M':=by
 subst hn;have e:QtG M M.m.length=QaJ M:=rfl;have e2:QF9 M (QaJ M)=QaG M:=rfl;have e3:QIH M M.m.length=QmB M:=rfl;unfold QEJ at h;rw [e,e2,e3,Qzq (M:=QaG M) (QbY M hM).ml] at h;unfold Qbh;split at h
 ·cases h
 rename_i hr;refine ⟨by simpa using hr,?_⟩;split at h
 ·cases h
 rename_i h1;rw [zN h1];split at h
 ·rename_i h2
  rw [zP h2];injection h with h
 rename_i h2;rw [zN h2];split at h
 ·cases h
 rename_i h3;rw [zN h3];split at h
 ·cases h
 rename_i h4;rw [zN h4];injection h with h
def chN (n:Nat):Mc→List Mc→Prop
 | _,[]=>True
 | a,b::l=>QEJ a n=some b∧chN n b l
theorem QpL (n:Nat) (z:Mc):∀ (l:List Mc) (a M:Mc),chN n a (l++ [z])→M∈a::(l++ [z])→M=z∨∃ M',QEJ M n=some M'∧M'∈a::(l++ [z])
 | [],a,M,h,hm=>by
  rcases List.mem_cons.1 hm with rfl|hm
  ·exact .inr ⟨z,h.1,by simp⟩
  ·exact .inl (by simpa using hm)
 | b::l,a,M,h,hm=>by
  rcases List.mem_cons.1 hm with rfl|hm
  ·exact .inr ⟨b,h.1,by simp⟩
  ·rcases QpL n z l b M h.2 hm with h1|⟨M',h1,h2⟩
   ·exact .inl h1
   ·exact .inr ⟨M',h1,List.mem_cons_of_mem _ h2⟩
def kA:List Nat:= [403701760,303104152,990904321,403701760,303104031,990904327,403701760,303104004,990904326,404750336,304218624,405798912,305332224,406847488,306446344,340983816,307560455,342032386,23461890,592838656,271777793,708116474,403701760,303104006,1024458759,403701760,303104002,1024458761,403701760,303104100,1024458755,403701760,303104640,990904322,403701760,303104021,990904320,956301312,990904325,974127107,386990096,672137233,974127106,269549572,990904322,1009778690,1026555904,403701760,303104001,1024458756,403701760,303104007,1024458757,286392321,269549569,1024458758,974127109,956301312,1007681536,1024458752,1023410182,1023410185,403701760,303104006,1024458759,403701760,303104002,1024458761,1007681538,269549588,1024458755,1007681546,1024458762,974127109,956301312,0,0,0,0,0,0,0,0,0,0,0,0,0,0,0,0,0,0,0,0,0,0,0,0,0,0,0,0,0,0,0,0,0,0,0,0,0,0,0,0,0,0,0,0,0,0,0,0,0,0,0,0,0]
def kp0:List Nat:= [0,0,0,0,0,0,0,0]
def kp1:List Nat:= [7,0,0,0,0,0,0,0]
def kp2:List Nat:= [7,263,0,0,0,0,0,0]
def kp3:List Nat:= [7,263,519,0,0,0,0,0]
def kp4:List Nat:= [7,263,519,775,0,0,0,0]
def kp5:List Nat:= [7,263,519,775,1031,0,0,0]
def kp6:List Nat:= [7,263,519,775,1031,1287,0,0]
def kp7:List Nat:= [7,263,519,775,1031,1287,1543,0]
def kp8:List Nat:= [7,263,519,775,1031,1287,1543,1799]
def kM (a b c d e f pc s v ep r en:Nat) (p:List Nat) (ta:Bool) (td fr:Nat) (po:Bool) (bu ct:Nat) (u:List Nat):Mc:=⟨[0,a,b,c,d,e,f,0,0,0,0,0,0,0,0,0],pc,[s,v,ep,0,0,0,r,en],kA++(p++(zer 24++u)),⟨#[]⟩,ta,td,false,⟨4,0,0,0,0,0,0,⟨#[]⟩⟩,⟨fr,0,po,bu,false,0⟩,0,0,ct,false,false⟩
def kS0:=kM 0 0 0 0 0 0 0 1 0 0 0 0 kp0 false 0 0 false 0 0
def QFa:=kM 21 512 8 8 1799 540 640 22 152 640 4 31 kp8 true 100 6 true 6 87
def kL (u:List Nat):List Mc:= [kM 0 0 0 0 0 0 4 1 0 0 0 0 kp0 false 0 0 false 0 1 u,kM 152 0 0 0 0 0 8 1 0 0 0 0 kp0 false 0 0 false 0 2 u,kM 152 0 0 0 0 0 12 1 152 0 0 0 kp0 false 0 0 false 0 3 u,kM 0 0 0 0 0 0 16 1 152 0 0 0 kp0 false 0 0 false 0 4 u,kM 31 0 0 0 0 0 20 1 152 0 0 0 kp0 false 0 0 false 0 5 u,kM 31 0 0 0 0 0 24 1 152 0 0 31 kp0 false 0 0 false 0 6 u,kM 0 0 0 0 0 0 28 1 152 0 0 31 kp0 false 0 0 false 0 7 u,kM 4 0 0 0 0 0 32 1 152 0 0 31 kp0 false 0 0 false 0 8 u,kM 4 0 0 0 0 0 36 1 152 0 4 31 kp0 false 0 0 false 0 9 u,kM 4 0 0 0 0 0 40 1 152 0 4 31 kp0 false 0 0 false 0 10 u,kM 4 512 0 0 0 0 44 1 152 0 4 31 kp0 false 0 0 false 0 11 u,kM 4 512 0 0 0 0 48 1 152 0 4 31 kp0 false 0 0 false 0 12 u,kM 4 512 0 0 0 0 52 1 152 0 4 31 kp0 false 0 0 false 0 13 u,kM 4 512 0 0 0 0 56 1 152 0 4 31 kp0 false 0 0 false 0 14 u,kM 4 512 0 8 0 0 60 1 152 0 4 31 kp0 false 0 0 false 0 15 u,kM 4 512 0 8 0 0 64 1 152 0 4 31 kp0 false 0 0 false 0 16 u,kM 4 512 0 8 7 0 68 1 152 0 4 31 kp0 false 0 0 false 0 17 u,kM 4 512 0 8 7 0 72 1 152 0 4 31 kp0 false 0 0 false 0 18 u,kM 4 512 0 8 7 512 76 1 152 0 4 31 kp0 false 0 0 false 0 19 u,kM 4 512 0 8 7 512 80 1 152 0 4 31 kp1 false 0 0 false 0 20 u,kM 4 512 1 8 7 512 84 1 152 0 4 31 kp1 false 0 0 false 0 21 u,kM 4 512 1 8 7 512 60 1 152 0 4 31 kp1 false 0 0 false 0 22 u,kM 4 512 1 8 256 512 64 1 152 0 4 31 kp1 false 0 0 false 0 23 u,kM 4 512 1 8 263 512 68 1 152 0 4 31 kp1 false 0 0 false 0 24 u,kM 4 512 1 8 263 4 72 1 152 0 4 31 kp1 false 0 0 false 0 25 u,kM 4 512 1 8 263 516 76 1 152 0 4 31 kp1 false 0 0 false 0 26 u,kM 4 512 1 8 263 516 80 1 152 0 4 31 kp2 false 0 0 false 0 27 u,kM 4 512 2 8 263 516 84 1 152 0 4 31 kp2 false 0 0 false 0 28 u,kM 4 512 2 8 263 516 60 1 152 0 4 31 kp2 false 0 0 false 0 29 u,kM 4 512 2 8 512 516 64 1 152 0 4 31 kp2 false 0 0 false 0 30 u,kM 4 512 2 8 519 516 68 1 152 0 4 31 kp2 false 0 0 false 0 31 u,kM 4 512 2 8 519 8 72 1 152 0 4 31 kp2 false 0 0 false 0 32 u,kM 4 512 2 8 519 520 76 1 152 0 4 31 kp2 false 0 0 false 0 33 u,kM 4 512 2 8 519 520 80 1 152 0 4 31 kp3 false 0 0 false 0 34 u,kM 4 512 3 8 519 520 84 1 152 0 4 31 kp3 false 0 0 false 0 35 u,kM 4 512 3 8 519 520 60 1 152 0 4 31 kp3 false 0 0 false 0 36 u,kM 4 512 3 8 768 520 64 1 152 0 4 31 kp3 false 0 0 false 0 37 u,kM 4 512 3 8 775 520 68 1 152 0 4 31 kp3 false 0 0 false 0 38 u,kM 4 512 3 8 775 12 72 1 152 0 4 31 kp3 false 0 0 false 0 39 u,kM 4 512 3 8 775 524 76 1 152 0 4 31 kp3 false 0 0 false 0 40 u,kM 4 512 3 8 775 524 80 1 152 0 4 31 kp4 false 0 0 false 0 41 u,kM 4 512 4 8 775 524 84 1 152 0 4 31 kp4 false 0 0 false 0 42 u,kM 4 512 4 8 775 524 60 1 152 0 4 31 kp4 false 0 0 false 0 43 u,kM 4 512 4 8 1024 524 64 1 152 0 4 31 kp4 false 0 0 false 0 44 u,kM 4 512 4 8 1031 524 68 1 152 0 4 31 kp4 false 0 0 false 0 45 u,kM 4 512 4 8 1031 16 72 1 152 0 4 31 kp4 false 0 0 false 0 46 u,kM 4 512 4 8 1031 528 76 1 152 0 4 31 kp4 false 0 0 false 0 47 u,kM 4 512 4 8 1031 528 80 1 152 0 4 31 kp5 false 0 0 false 0 48 u,kM 4 512 5 8 1031 528 84 1 152 0 4 31 kp5 false 0 0 false 0 49 u,kM 4 512 5 8 1031 528 60 1 152 0 4 31 kp5 false 0 0 false 0 50 u,kM 4 512 5 8 1280 528 64 1 152 0 4 31 kp5 false 0 0 false 0 51 u,kM 4 512 5 8 1287 528 68 1 152 0 4 31 kp5 false 0 0 false 0 52 u,kM 4 512 5 8 1287 20 72 1 152 0 4 31 kp5 false 0 0 false 0 53 u,kM 4 512 5 8 1287 532 76 1 152 0 4 31 kp5 false 0 0 false 0 54 u,kM 4 512 5 8 1287 532 80 1 152 0 4 31 kp6 false 0 0 false 0 55 u,kM 4 512 6 8 1287 532 84 1 152 0 4 31 kp6 false 0 0 false 0 56 u,kM 4 512 6 8 1287 532 60 1 152 0 4 31 kp6 false 0 0 false 0 57 u,kM 4 512 6 8 1536 532 64 1 152 0 4 31 kp6 false 0 0 false 0 58 u,kM 4 512 6 8 1543 532 68 1 152 0 4 31 kp6 false 0 0 false 0 59 u,kM 4 512 6 8 1543 24 72 1 152 0 4 31 kp6 false 0 0 false 0 60 u,kM 4 512 6 8 1543 536 76 1 152 0 4 31 kp6 false 0 0 false 0 61 u,kM 4 512 6 8 1543 536 80 1 152 0 4 31 kp7 false 0 0 false 0 62 u,kM 4 512 7 8 1543 536 84 1 152 0 4 31 kp7 false 0 0 false 0 63 u,kM 4 512 7 8 1543 536 60 1 152 0 4 31 kp7 false 0 0 false 0 64 u,kM 4 512 7 8 1792 536 64 1 152 0 4 31 kp7 false 0 0 false 0 65 u,kM 4 512 7 8 1799 536 68 1 152 0 4 31 kp7 false 0 0 false 0 66 u,kM 4 512 7 8 1799 28 72 1 152 0 4 31 kp7 false 0 0 false 0 67 u,kM 4 512 7 8 1799 540 76 1 152 0 4 31 kp7 false 0 0 false 0 68 u,kM 4 512 7 8 1799 540 80 1 152 0 4 31 kp8 false 0 0 false 0 69 u,kM 4 512 8 8 1799 540 84 1 152 0 4 31 kp8 false 0 0 false 0 70 u,kM 4 512 8 8 1799 540 88 1 152 0 4 31 kp8 false 0 0 false 0 71 u,kM 0 512 8 8 1799 540 92 1 152 0 4 31 kp8 false 0 0 false 0 72 u,kM 6 512 8 8 1799 540 96 1 152 0 4 31 kp8 false 0 0 false 0 73 u,kM 6 512 8 8 1799 540 100 1 152 0 4 31 kp8 false 0 6 false 0 74 u,kM 0 512 8 8 1799 540 104 1 152 0 4 31 kp8 false 0 6 false 0 75 u,kM 2 512 8 8 1799 540 108 1 152 0 4 31 kp8 false 0 6 false 0 76 u,kM 2 512 8 8 1799 540 112 1 152 0 4 31 kp8 false 0 6 true 6 77 u,kM 0 512 8 8 1799 540 116 1 152 0 4 31 kp8 false 0 6 true 6 78 u,kM 100 512 8 8 1799 540 120 1 152 0 4 31 kp8 false 0 6 true 6 79 u,kM 100 512 8 8 1799 540 124 1 152 0 4 31 kp8 true 100 6 true 6 80 u,kM 0 512 8 8 1799 540 128 1 152 0 4 31 kp8 true 100 6 true 6 81 u,kM 640 512 8 8 1799 540 132 1 152 0 4 31 kp8 true 100 6 true 6 82 u,kM 640 512 8 8 1799 540 136 1 152 640 4 31 kp8 true 100 6 true 6 83 u,kM 0 512 8 8 1799 540 140 1 152 640 4 31 kp8 true 100 6 true 6 84 u,kM 21 512 8 8 1799 540 144 1 152 640 4 31 kp8 true 100 6 true 6 85 u,kM 21 512 8 8 1799 540 148 21 152 640 4 31 kp8 true 100 6 true 6 86 u]
theorem kC (u:List Nat):chN 256 (kS0 u) (kL u++ [QFa u]):=by
 repeat (refine ⟨by kernel_rfl,?_⟩)
 trivial
noncomputable def QA4 (l:List Oper):Option ByteArray:=List.rec none (fun o _ ih=>match o.op with
 | .call c=>(match c.args.toList with
  | [.const (.string s)]=>some s
  | _=>ih)
 | _=>ih) l
noncomputable def Qdh:Code→Option ByteArray
 | .region _ ops _=>QA4 ops.toList
 | .seq a b=>(match Qdh a with
  | some s=>some s
  | none=>Qdh b)
 | .cond _ a b=>(match Qdh a with
  | some s=>some s
  | none=>Qdh b)
 | .block _ a=>Qdh a
 | .loop a=>Qdh a
 | .scope a=>Qdh a
 | _=>none
noncomputable def srcK:ByteArray:=(Qdh (Tryz.f5.body.getD .skip)).getD ⟨#[]⟩
noncomputable def QII (l:List UInt8):List UInt8→List (List UInt8):=List.rec (fun acc=> [acc.reverse]) (fun x _ ih acc=>match Nat.beq x.toNat 10 with
 | true=>acc.reverse::ih []
 | false=>ih (x::acc)) l
noncomputable def lnK (i:Nat):List UInt8:=(QII srcK.data.toList []).getD i []
def nbF:Nat→Nat→List UInt8→List UInt8
 | 0,_,l=>l
 | k+1,n,l=>match Nat.beq n 0 with
  | true=>l
  | false=>nbF k (n / 256) (UInt8.ofNat (n%256)::l)
def nb (n:Nat):SV:= .str ⟨⟨nbF 12 n []⟩⟩
abbrev Lk:=Nat × Nat × Int × Int × List (Int × Int × Nat)
def lnD:List Lk:= [(0,27753,0,2,[(1,0,0),(0,0,29380524337030514)]),(0,1668510327,59,1,[(1,0,0),(0,1,0)]),(0,27753,0,2,[(1,0,0),(0,31,0)]),(0,1668510327,59,1,[(1,0,0),(0,7,0)]),(0,27753,0,2,[(1,0,0),(0,4,0)]),(0,1668510327,59,1,[(1,0,0),(0,6,0)]),(0,27753,0,2,[(2,0,0),(0,512,0)]),(0,27753,0,2,[(3,0,0),(0,0,0)]),(0,27753,0,2,[(4,0,0),(0,8,0)]),(7168368,1936223337,20,1,[(5,0,0),(3,0,0),(0,8,0)]),(0,7303785,18,1,[(5,0,0),(5,0,0),(0,7,0)]),(0,1936223337,20,1,[(6,0,0),(3,0,0),(0,2,0)]),(0,6382692,1,1,[(6,0,0),(6,0,0),(2,0,0)]),(0,29559,35,1,[(5,0,0),(0,0,0),(6,0,0)]),(0,1633969257,16,1,[(3,0,0),(3,0,0),(0,1,0)]),(0,6450292,42,1,[(3,0,0),(4,0,0),(0,0,7168368)]),(0,27753,0,2,[(1,0,0),(0,6,0)]),(0,7304564,61,1,[(1,0,0),(0,7,0)]),(0,27753,0,2,[(1,0,0),(0,2,0)]),(0,7304564,61,1,[(1,0,0),(0,9,0)]),(0,27753,0,2,[(1,0,0),(0,100,0)]),(0,7304564,61,1,[(1,0,0),(0,3,0)]),(0,27753,0,2,[(1,0,0),(0,640,0)]),(0,1668510327,59,1,[(1,0,0),(0,2,0)]),(0,27753,0,2,[(1,0,0),(0,21,0)]),(0,1668510327,59,1,[(1,0,0),(0,0,0)]),(0,1701995892,57,1,[]),(29380524337030514,1668510327,59,1,[(1,0,0),(0,5,0)]),(0,1668510322,58,1,[(1,0,0),(0,3,0)]),(0,1936487529,23,1,[(1,0,0),(1,0,0),(0,16,0)]),(0,6448497,40,1,[(1,0,0),(0,0,0),(0,0,6910577)]),(0,1668510322,58,1,[(1,0,0),(0,2,0)]),(0,1633969257,16,1,[(1,0,0),(1,0,0),(0,4,0)]),(0,1668510327,59,1,[(1,0,0),(0,2,0)]),(0,26990,60,1,[(3,0,0),(0,2,0)]),(0,7304564,61,1,[(3,0,0),(0,0,0)]),(0,27753,0,2,[(1,0,0),(0,1,0)]),(0,7304564,61,1,[(1,0,0),(0,4,0)]),(0,27753,0,2,[(1,0,0),(0,7,0)]),(0,7304564,61,1,[(1,0,0),(0,5,0)]),(0,1634624617,17,1,[(1,0,0),(2,0,0),(0,1,0)]),(0,1633969257,16,1,[(1,0,0),(1,0,0),(0,1,0)]),(0,7304564,61,1,[(1,0,0),(0,6,0)]),(0,1668510322,58,1,[(1,0,0),(0,5,0)]),(0,1701995892,57,1,[]),(6910577,26990,60,1,[(1,0,0),(0,0,0)]),(0,7304564,61,1,[(1,0,0),(0,0,0)]),(0,7304564,61,1,[(0,0,0),(0,6,0)]),(0,7304564,61,1,[(0,0,0),(0,9,0)]),(0,27753,0,2,[(1,0,0),(0,6,0)]),(0,7304564,61,1,[(1,0,0),(0,7,0)]),(0,27753,0,2,[(1,0,0),(0,2,0)]),(0,7304564,61,1,[(1,0,0),(0,9,0)]),(0,26990,60,1,[(1,0,0),(0,2,0)]),(0,1633969257,16,1,[(1,0,0),(1,0,0),(0,20,0)]),(0,7304564,61,1,[(1,0,0),(0,3,0)]),(0,26990,60,1,[(1,0,0),(0,10,0)]),(0,7304564,61,1,[(1,0,0),(0,10,0)]),(0,1668510322,58,1,[(1,0,0),(0,5,0)]),(0,1701995892,57,1,[])]
def agC:List (Int × Int × Nat)→List SV
 | []=> []
 | (r,n,l)::a=> .i r:: .i n::nb l::agC a
def agS (k:Nat):List (Int × Int × Nat)→SV
 | []=> .nilsl
 | a=> .sl k 0 a.length
def agR:List (Int × Int × Nat)→List Row
 | []=> []
 | a=> [⟨true,3,agC a⟩]
def prO:Lk→Res
 | (l,w,o,s,a)=>⟨.tup [.s (nb l),.agg [nb w,.i o,agS 0 a,.i 0,.i 0,.i s],.s (.bool true)],[],agR a⟩
def prR (i:Nat):Res:=prO (lnD.getD i (0,0,0,0,[]))
noncomputable def lnT:Nat→List CE
 | 0=> []
 | n+1=>⟨53,lnK n,prR n⟩::lnT n
theorem lnS {n:Nat} (h:Qkl (lnT n)) (k:QcN eqt tys true fns wdC 100 20 53 [.s (.str ⟨⟨lnK n⟩⟩)] []=some (prR n):=by kernel_rfl):Qkl (lnT (n+1)):=⟨QaF k,h⟩
theorem QKt:Qkl (lnT 6):=by (iterate 6 refine lnS ?_);exact trivial
theorem QKl:Qkl (lnT 12):=by (iterate 6 refine lnS ?_);exact QKt
theorem QKm:Qkl (lnT 18):=by (iterate 6 refine lnS ?_);exact QKl
theorem QKn:Qkl (lnT 24):=by (iterate 6 refine lnS ?_);exact QKm
theorem QKo:Qkl (lnT 30):=by (iterate 6 refine lnS ?_);exact QKn
theorem QKp:Qkl (lnT 36):=by (iterate 6 refine lnS ?_);exact QKo
theorem QKq:Qkl (lnT 42):=by (iterate 6 refine lnS ?_);exact QKp
theorem QKr:Qkl (lnT 48):=by (iterate 6 refine lnS ?_);exact QKq
theorem QKs:Qkl (lnT 54):=by (iterate 6 refine lnS ?_);exact QKr
theorem QDs:Qkl (lnT 60):=by (iterate 6 refine lnS ?_);exact QKs
end Go.Proofs.YtflelebfmdggkaaGreat
