import Derived.Test.YtjgikeckbeeehaaGreatP12
set_option linter.unusedSimpArgs false
set_option linter.unusedVariables false
set_option maxHeartbeats 100000000
set_option maxRecDepth 100000
namespace Go.Proofs.YtjgikeckbeeehaaGreat
open Go Go.RowKit
def oS (k:Nat):Option (List SV)→SV
 | none=> .nilsl
 | some _=> .sl k 0 1
def oR:Option (List SV)→List Row
 | none=> []
 | some l=> [⟨true,4,l⟩]
def QtT (d:Dk) (v c:Nat) (b:ByteArray):Dk:=⟨d.bs,d.bl,d.fr,1,v,d.bl,d.fr,if (v:Int)=2 then b else ⟨#[]⟩⟩
def QbQ (d:Dk) (xs:List Nat) (n:Nat) (p:Int) (v c:Nat):Dk × Option (List SV) :=
 if p=4 then (⟨d.bs,v,d.fr,d.st,d.cmd,d.ob,d.of_,d.od⟩,none)
 else if p=5 then (⟨d.bs,d.bl,v,d.st,d.cmd,d.ob,d.of_,d.od⟩,none)
 else if ¬ p=6 then (d,none)
 else if (v:Int)=0∧(d.st=2∨d.st=3) then (⟨d.bs,d.bl,d.fr,0,d.cmd,d.ob,d.of_,d.od⟩,none)
 else if ((v:Int)=1∨(v:Int)=2)∧d.st=0 then
  (if (d.bs:Int)≤d.bl then (⟨d.bs,d.bl,d.fr,3,d.cmd,d.ob,d.of_,d.od⟩,none)
   else if Qbk n d.fr=false then (⟨d.bs,d.bl,d.fr,3,d.cmd,d.ob,d.of_,d.od⟩,none)
   else (QtT d v c (pgV xs n d.fr),some (Qq2 (QtT d v c (pgV xs n d.fr)) c)))
 else (d,none)
theorem Qe1 (d:Dk) (hd:d.ok) (xs:List Nat) (n:Nat) (hl:xs.length=n) (hn:n≤1000000) (hxr:∀ y∈xs,y<4294967296) (p:Int) (v:Nat) (hv:v<4294967296) (c:Nat) :
  Fn Tryz.prog 151 [.agg d.C,.s (.sl 0 0 n),.s (.int .i64 p),.s (.int .u32 v),.s (.int .u64 c)] [⟨false,1,wsv xs⟩] (· =⟨.tup [.agg (QbQ d xs n p v c).1.C,.s (oS 1 (QbQ d xs n p v c).2)],[],oR (QbQ d xs n p v c).2⟩):=by
 obtain ⟨_,_,e3,_,_,_,_,_⟩:=hd
 have q1:=QcV xs n hl (by omega) d.fr e3
 have q2:=Qgt xs n hl hn hxr d.fr
 have q3:=Qhq (QtT d v c (pgV xs n d.fr)) c
 have hsx:=Qaa xs
 obtain ⟨D,hD⟩:∃ D,QbQ d xs n p v c=D:=⟨_,rfl⟩
 rw [hD]
 unfold QbQ at hD
 generalize hO:Qq2 (QtT d v c (pgV xs n d.fr)) c=O at *
 have hO4:O.length=4∧Qau O=true∧Qat O=true:=by
  rw [← hO];unfold Qq2;split<;>(try split)<;>(try split)<;>exact ⟨rfl,rfl,rfl⟩
 generalize Qxb (QtT d v c (pgV xs n d.fr))=RB at *
 unfold QtT at *
 generalize pgV xs n d.fr=PG at *
 generalize decide (d.fr<mpg n)=PB at *
 generalize Qbk n d.fr=pb at *
 generalize wsv xs=XX at *
 obtain ⟨bs,bl,fr,st,_,_,_,_⟩:=d
 dsimp only [Dk.C] at *
 have cv:IntKind.i64.wrap (v:Int)=v:=by rw [QbI (by omega) (by omega)]
 have cf:IntKind.i64.wrap (fr:Int)=fr:=by rw [QbI (by omega) (by omega)]
 by_cases h4:p=4
 ·rw [if_pos h4] at hD
  subst hD h4
  dsimp only [oS,oR]
  refine fnW Tryz.func151 ?_
  (repeat' ((conv=>whnf);first|(intro hb;first|exact zk2 hb|(try (replace hb:=zn0 hb)))|refine zst ?_|refine zbx ?_ ?_|refine zgx ?_ ?_|refine eqR ?_));(all_goals (try (conv=>whnf)))
  all_goals first|(exact Qbr)|(exfalso;simp only [decide_eq_true_eq,decide_eq_false_iff_not,beq_iff_eq,beq_eq_false_iff_ne,ne_eq] at *;omega)
 rw [if_neg h4] at hD
 by_cases h5:p=5
 ·rw [if_pos h5] at hD
  subst hD h5
  dsimp only [oS,oR]
  refine fnW Tryz.func151 ?_
  (repeat' ((conv=>whnf);first|(intro hb;first|exact zk2 hb|(try (replace hb:=zn0 hb)))|refine zst ?_|refine zbx ?_ ?_|refine zgx ?_ ?_|refine eqR ?_));(all_goals (try (conv=>whnf)))
  all_goals first|(exact Qbr)|(exfalso;simp only [decide_eq_true_eq,decide_eq_false_iff_not,beq_iff_eq,beq_eq_false_iff_ne,ne_eq] at *;omega)
 rw [if_neg h5] at hD
 by_cases h6:¬ p=6
 ·rw [if_pos h6] at hD
  subst hD
  dsimp only [oS,oR]
  refine fnW Tryz.func151 ?_
  (repeat' ((conv=>whnf);first|(intro hb;first|exact zk2 hb|(try (replace hb:=zn0 hb)))|refine zst ?_|refine zbx ?_ ?_|refine zgx ?_ ?_|refine eqR ?_));(all_goals (try (conv=>whnf)))
  all_goals first|(exact Qbr)|(exfalso;simp only [decide_eq_true_eq,decide_eq_false_iff_not,beq_iff_eq,beq_eq_false_iff_ne,ne_eq] at *;omega)
 rw [if_neg h6] at hD
 obtain rfl:p=6:=by omega
 by_cases h7:(v:Int)=0∧(st=2∨st=3)
 ·rw [if_pos h7] at hD
  subst hD
  dsimp only [oS,oR]
  refine fnW Tryz.func151 ?_
  (repeat' ((conv=>whnf);first|(intro hb;first|exact zk2 hb|(try (replace hb:=zn0 hb)))|refine zst ?_|refine zbx ?_ ?_|refine zgx ?_ ?_|refine eqR ?_));(all_goals (try (conv=>whnf)))
  all_goals first|(exact Qbr)|(exfalso;simp only [decide_eq_true_eq,decide_eq_false_iff_not,beq_iff_eq,beq_eq_false_iff_ne,ne_eq] at *;omega)
 rw [if_neg h7] at hD
 by_cases h8:((v:Int)=1∨(v:Int)=2)∧st=0
 ·rw [if_pos h8] at hD
  by_cases h9:(bs:Int)≤bl
  ·rw [if_pos h9] at hD
   subst hD
   dsimp only [oS,oR]
   refine fnW Tryz.func151 ?_
   (repeat' ((conv=>whnf);first|(intro hb;first|exact zk2 hb|(try (replace hb:=zn0 hb)))|refine zst ?_|refine zbx ?_ ?_|refine zgx ?_ ?_|refine eqR ?_));(all_goals (try (conv=>whnf)))
   all_goals first|(exact Qbr)|(exfalso;simp only [decide_eq_true_eq,decide_eq_false_iff_not,beq_iff_eq,beq_eq_false_iff_ne,ne_eq] at *;omega)
  rw [if_neg h9] at hD
  cases pb
  ·rw [if_pos rfl] at hD
   subst hD
   dsimp only [oS,oR]
   refine fnW Tryz.func151 ?_
   (repeat' ((conv=>whnf);first|(intro hb;first|exact zk2 hb|(try (replace hb:=zn0 hb)))|(refine Qay q1 ?_)|refine zst ?_|refine zbx ?_ ?_|refine zgx ?_ ?_|refine eqR ?_));(all_goals (try (conv=>whnf)))
   all_goals first|(exact Qbr)|(exfalso;simp only [decide_eq_true_eq,decide_eq_false_iff_not,beq_iff_eq,beq_eq_false_iff_ne,ne_eq] at *;omega)
  rw [if_neg (by decide)] at hD
  by_cases h2:(v:Int)=2
  ·rw [if_pos h2] at hD q3
   obtain rfl:v=2:=by omega
   obtain rfl:O= [.int .i64 4,.int .u64 c,.int .u32 bl,.str PG]:=by rw [← hO];rfl
   clear hO hO4
   subst hD
   dsimp only [oS,oR]
   refine fnW Tryz.func151 ?_
   (repeat' ((conv=>whnf);first|(intro hb;first|exact zk2 hb|(try (replace hb:=zn0 hb)))|(with_reducible first|refine zv cv ?_|refine zv cf ?_)|(refine Qay q1 ?_)|(refine Qay q2 ?_)|(refine zpu q3 ?_)|refine zst ?_|refine zbx ?_ ?_|refine zgx ?_ ?_|refine eqR ?_));(all_goals (try (conv=>whnf)))
   all_goals first|(exact Qa2)|(exfalso;simp only [decide_eq_true_eq,decide_eq_false_iff_not,beq_iff_eq,beq_eq_false_iff_ne,ne_eq] at *;omega)
  ·rw [if_neg h2] at hD q3
   obtain rfl:v=1:=by omega
   obtain rfl:O= [.int .i64 3,.int .u64 c,.int .u32 bl,.str ⟨#[]⟩]:=by rw [← hO];rfl
   clear hO hO4
   subst hD
   dsimp only [oS,oR]
   refine fnW Tryz.func151 ?_
   (repeat' ((conv=>whnf);first|(intro hb;first|exact zk2 hb|(try (replace hb:=zn0 hb)))|(with_reducible first|refine zv cv ?_|refine zv cf ?_)|(refine Qay q1 ?_)|(refine Qay q2 ?_)|(refine zpu q3 ?_)|refine zst ?_|refine zbx ?_ ?_|refine zgx ?_ ?_|refine eqR ?_));(all_goals (try (conv=>whnf)))
   all_goals first|(exact Qa2)|(exfalso;simp only [decide_eq_true_eq,decide_eq_false_iff_not,beq_iff_eq,beq_eq_false_iff_ne,ne_eq] at *;omega)
 rw [if_neg h8] at hD
 subst hD
 dsimp only [oS,oR]
 refine fnW Tryz.func151 ?_
 (repeat' ((conv=>whnf);first|(intro hb;first|exact zk2 hb|(try (replace hb:=zn0 hb)))|refine zst ?_|refine zbx ?_ ?_|refine zgx ?_ ?_|refine eqR ?_));(all_goals (try (conv=>whnf)))
 all_goals first|(exact Qbr)|(exfalso;simp only [decide_eq_true_eq,decide_eq_false_iff_not,beq_iff_eq,beq_eq_false_iff_ne,ne_eq] at *;omega)
def QbU (d:Nk) (xs:List Nat) (n:Nat) (p:Int) (v c:Nat):Nk × Option (List SV) :=
 if p=7 then (⟨v,d.ln,d.po,d.bu,d.re,d.go_⟩,none)
 else if p=8 then (⟨d.fr,v,d.po,d.bu,d.re,d.go_⟩,none)
 else if ¬ p=9 then (d,none)
 else if (v:Int)=0 then (⟨d.fr,d.ln,d.po,d.bu,false,0⟩,none)
 else if (v:Int)=1∧1≤(d.ln:Int)∧(d.ln:Int)≤128∧Qbk n d.fr=true then (d,some [.int .i64 2,.int .u64 c,.int .u32 0,.str ((pgV xs n d.fr).extract 0 d.ln)])
 else if (v:Int)=2∧Qbk n d.fr=true∧d.po=false∧d.re=false then (⟨d.fr,d.ln,true,d.fr,d.re,d.go_⟩,none)
 else (d,none)
theorem QnN {xs:List Nat} {n f:Nat} (h:Qbk n f=true):(pgV xs n f).size=128:=by
 unfold Qbk at h
 have:=of_decide_eq_true h
 unfold pgV
 rw [if_pos (by omega),strOfNums_size,QfH]
theorem Qfd (d:Nk) (hd:d.ok) (xs:List Nat) (n:Nat) (hl:xs.length=n) (hn:n≤1000000) (hxr:∀ y∈xs,y<4294967296) (p:Int) (v:Nat) (hv:v<4294967296) (c:Nat) :
  Fn Tryz.prog 152 [.agg d.C,.s (.sl 0 0 n),.s (.int .i64 p),.s (.int .u32 v),.s (.int .u64 c)] [⟨false,1,wsv xs⟩] (· =⟨.tup [.agg (QbU d xs n p v c).1.C,.s (oS 1 (QbU d xs n p v c).2)],[],oR (QbU d xs n p v c).2⟩):=by
 obtain ⟨e1,e2,e3,e4⟩:=hd
 have q1:=QcV xs n hl (by omega) d.fr e1
 have q2:=Qgt xs n hl hn hxr d.fr
 have hps:=@QnN xs n d.fr
 have hsx:=Qaa xs
 obtain ⟨D,hD⟩:∃ D,QbU d xs n p v c=D:=⟨_,rfl⟩
 rw [hD]
 unfold QbU at hD
 generalize pgV xs n d.fr=PG at *
 generalize decide (d.fr<mpg n)=PB at *
 generalize Qbk n d.fr=pb at *
 generalize wsv xs=XX at *
 obtain ⟨fr,ln,po,_,re,_⟩:=d
 dsimp only [Nk.C] at *
 have cf:IntKind.i64.wrap (fr:Int)=fr:=by rw [QbI (by omega) (by omega)]
 have cl:IntKind.i64.wrap (ln:Int)=ln:=by rw [QbI (by omega) (by omega)]
 by_cases h4:p=7
 ·rw [if_pos h4] at hD
  subst hD h4
  dsimp only [oS,oR]
  refine fnW Tryz.func152 ?_
  (repeat' ((conv=>whnf);first|(intro hb;first|exact zk2 hb|(try (replace hb:=zn0 hb)))|refine zst ?_|refine zbx ?_ ?_|refine zgx ?_ ?_|refine eqR ?_));(all_goals (try (conv=>whnf)))
  all_goals first|(exact Qbr)|(exfalso;simp only [decide_eq_true_eq,decide_eq_false_iff_not,beq_iff_eq,beq_eq_false_iff_ne,ne_eq] at *;omega)|(exfalso;simp at *;done)
 rw [if_neg h4] at hD
 by_cases h5:p=8
 ·rw [if_pos h5] at hD
  subst hD h5
  dsimp only [oS,oR]
  refine fnW Tryz.func152 ?_
  (repeat' ((conv=>whnf);first|(intro hb;first|exact zk2 hb|(try (replace hb:=zn0 hb)))|refine zst ?_|refine zbx ?_ ?_|refine zgx ?_ ?_|refine eqR ?_));(all_goals (try (conv=>whnf)))
  all_goals first|(exact Qbr)|(exfalso;simp only [decide_eq_true_eq,decide_eq_false_iff_not,beq_iff_eq,beq_eq_false_iff_ne,ne_eq] at *;omega)|(exfalso;simp at *;done)
 rw [if_neg h5] at hD
 by_cases h6:¬ p=9
 ·rw [if_pos h6] at hD
  subst hD
  dsimp only [oS,oR]
  refine fnW Tryz.func152 ?_
  (repeat' ((conv=>whnf);first|(intro hb;first|exact zk2 hb|(try (replace hb:=zn0 hb)))|refine zst ?_|refine zbx ?_ ?_|refine zgx ?_ ?_|refine eqR ?_));(all_goals (try (conv=>whnf)))
  all_goals first|(exact Qbr)|(exfalso;simp only [decide_eq_true_eq,decide_eq_false_iff_not,beq_iff_eq,beq_eq_false_iff_ne,ne_eq] at *;omega)|(exfalso;simp at *;done)
 rw [if_neg h6] at hD
 obtain rfl:p=9:=by omega
 by_cases h7:(v:Int)=0
 ·rw [if_pos h7] at hD
  subst hD
  obtain rfl:v=0:=by omega
  dsimp only [oS,oR]
  refine fnW Tryz.func152 ?_
  (repeat' ((conv=>whnf);first|(intro hb;first|exact zk2 hb|(try (replace hb:=zn0 hb)))|refine zst ?_|refine zbx ?_ ?_|refine zgx ?_ ?_|refine eqR ?_));(all_goals (try (conv=>whnf)))
  all_goals first|(exact Qbr)|(exfalso;simp only [decide_eq_true_eq,decide_eq_false_iff_not,beq_iff_eq,beq_eq_false_iff_ne,ne_eq] at *;omega)|(exfalso;simp at *;done)
 rw [if_neg h7] at hD
 by_cases h8:(v:Int)=1∧1≤(ln:Int)∧(ln:Int)≤128∧pb=true
 ·rw [if_pos h8] at hD
  obtain ⟨h81,h82,h83,rfl⟩:=h8
  have hps:=hps rfl
  have sb:(0:Int)≤0∧(0:Int)≤(ln:Int)∧(ln:Int)≤(PG.size:Nat):=by omega
  subst hD
  obtain rfl:v=1:=by omega
  dsimp only [oS,oR]
  refine fnW Tryz.func152 ?_
  (repeat' ((conv=>whnf);first|(intro hb;first|exact zk2 hb|(try (replace hb:=zn0 hb)))|(with_reducible first|refine zv cf ?_|refine zv cl ?_)|(refine Qay q1 ?_)|(refine Qay q2 ?_)|refine zst ?_|refine zbx ?_ ?_|refine zgx ?_ ?_|refine eqR ?_));(all_goals (try (conv=>whnf)))
  all_goals first|(exact Qa2)|(exfalso;simp only [decide_eq_true_eq,decide_eq_false_iff_not,beq_iff_eq,beq_eq_false_iff_ne,ne_eq] at *;omega)|(exfalso;simp at *;done)
 rw [if_neg h8] at hD
 by_cases h9:(v:Int)=2∧pb=true∧po=false∧re=false
 ·rw [if_pos h9] at hD
  obtain ⟨h91,rfl,rfl,rfl⟩:=h9
  subst hD
  obtain rfl:v=2:=by omega
  dsimp only [oS,oR]
  refine fnW Tryz.func152 ?_
  (repeat' ((conv=>whnf);first|(intro hb;first|exact zk2 hb|(try (replace hb:=zn0 hb)))|(refine Qay q1 ?_)|refine zst ?_|refine zbx ?_ ?_|refine zgx ?_ ?_|refine eqR ?_));(all_goals (try (conv=>whnf)))
  all_goals first|(exact Qbr)|(exfalso;simp only [decide_eq_true_eq,decide_eq_false_iff_not,beq_iff_eq,beq_eq_false_iff_ne,ne_eq] at *;omega)|(exfalso;simp at *;done)
 rw [if_neg h9] at hD
 by_cases w1:v=1
 ·obtain rfl:=w1
  by_cases w2:1≤(ln:Int)
  ·by_cases w3:(ln:Int)≤128
   ·obtain rfl:pb=false:=by cases pb;rfl;exact absurd ⟨rfl,w2,w3,rfl⟩ h8
    subst hD
    dsimp only [oS,oR]
    refine fnW Tryz.func152 ?_
    (repeat' ((conv=>whnf);first|(intro hb;first|exact zk2 hb|(try (replace hb:=zn0 hb)))|(refine Qay q1 ?_)|refine zst ?_|refine zbx ?_ ?_|refine zgx ?_ ?_|refine eqR ?_));(all_goals (try (conv=>whnf)))
    all_goals first|(exact Qbr)|(exfalso;simp only [decide_eq_true_eq,decide_eq_false_iff_not,beq_iff_eq,beq_eq_false_iff_ne,ne_eq] at *;omega)|(exfalso;simp at *;done)
   ·subst hD
    dsimp only [oS,oR]
    refine fnW Tryz.func152 ?_
    (repeat' ((conv=>whnf);first|(intro hb;first|exact zk2 hb|(try (replace hb:=zn0 hb)))|(refine Qay q1 ?_)|refine zst ?_|refine zbx ?_ ?_|refine zgx ?_ ?_|refine eqR ?_));(all_goals (try (conv=>whnf)))
    all_goals first|(exact Qbr)|(exfalso;simp only [decide_eq_true_eq,decide_eq_false_iff_not,beq_iff_eq,beq_eq_false_iff_ne,ne_eq] at *;omega)|(exfalso;simp at *;done)
  ·subst hD
   dsimp only [oS,oR]
   refine fnW Tryz.func152 ?_
   (repeat' ((conv=>whnf);first|(intro hb;first|exact zk2 hb|(try (replace hb:=zn0 hb)))|(refine Qay q1 ?_)|refine zst ?_|refine zbx ?_ ?_|refine zgx ?_ ?_|refine eqR ?_));(all_goals (try (conv=>whnf)))
   all_goals first|(exact Qbr)|(exfalso;simp only [decide_eq_true_eq,decide_eq_false_iff_not,beq_iff_eq,beq_eq_false_iff_ne,ne_eq] at *;omega)|(exfalso;simp at *;done)
 by_cases w2:v=2
 ·obtain rfl:=w2
  subst hD
  cases pb
  all_goals cases po
  all_goals cases re
  all_goals try (exfalso;exact h9 ⟨rfl,rfl,rfl,rfl⟩)
  all_goals
   skip
   dsimp only [oS,oR]
   refine fnW Tryz.func152 ?_
   (repeat' ((conv=>whnf);first|(intro hb;first|exact zk2 hb|(try (replace hb:=zn0 hb)))|(refine Qay q1 ?_)|refine zst ?_|refine zbx ?_ ?_|refine zgx ?_ ?_|refine eqR ?_));(all_goals (try (conv=>whnf)))
   all_goals first|(exact Qbr)|(exfalso;simp only [decide_eq_true_eq,decide_eq_false_iff_not,beq_iff_eq,beq_eq_false_iff_ne,ne_eq] at *;omega)|(exfalso;simp at *;done)
 subst hD
 dsimp only [oS,oR]
 refine fnW Tryz.func152 ?_
 (repeat' ((conv=>whnf);first|(intro hb;first|exact zk2 hb|(try (replace hb:=zn0 hb)))|(refine Qay q1 ?_)|refine zst ?_|refine zbx ?_ ?_|refine zgx ?_ ?_|refine eqR ?_));(all_goals (try (conv=>whnf)))
 all_goals first|(exact Qbr)|(exfalso;simp only [decide_eq_true_eq,decide_eq_false_iff_not,beq_iff_eq,beq_eq_false_iff_ne,ne_eq] at *;omega)|(exfalso;simp at *;done)
def QaO (o:Int):Int :=
 if 1≤o∧o≤13 then 2 else if o=16∨o=23∨32≤o∧o≤36∨40≤o∧o≤45∨o=49 then 3
 else if 17≤o∧o≤19 then 4 else if 20≤o∧o≤22 then 5 else if o=24 then 6 else if o=48 then 7
 else if o=58∨o=59 then 8 else if o=60∨o=61 then 9 else if o=56∨o=57∨62≤o∧o≤64 then 1 else 0
theorem Qk4 {c:Prop} [Decidable c] {x y z:Int} (h1:c→x=z) (h2:¬ c→y=z):(if c then x else y)=z:=by
 by_cases h:c
 ·rw [if_pos h];exact h1 h
 ·rw [if_neg h];exact h2 h
theorem Ql9 (o:Int):Fn Tryz.prog 90 [.s (.int .i64 o)] [] (· =⟨.a (.s (.int .i64 (QaO o))),[],[]⟩):=by
 refine fnW Tryz.func90 ?_
 (repeat' ((conv=>whnf);first|(intro hb;first|exact zk0 hb|(try (replace hb:=zn0 hb)))|refine zs0 ?_|refine zbx ?_ ?_|refine zgx ?_ ?_));(all_goals (try (conv=>whnf)))
 all_goals
  apply Qan
  (focus rfl)
  simp only [Qa7]
  congr 3
  refine Eq.symm ?_
  unfold QaO
  repeat' first
   | rfl
   | (apply Qk4<;>intro _)
   | (exfalso;omega)
def opsL:List Int:= [1,2,3,4,5,6,7,8,9,10,11,12,13,16,16,17,18,19,20,21,22,23,24,24,32,32,33,34,35,35,36,40,41,42,43,44,45,48,49,56,57,58,59,60,60,61,61,62,63,64]
theorem QuD:Fn Tryz.prog 77 [] [] (· =⟨.a (.s (.sl 0 0 50)),[],[⟨true,1,isv .i64 opsL⟩]⟩):=by
 refine fnW Tryz.func77 ?_
 (repeat' ((conv=>whnf);first|(intro hb;first|exact zk0 hb|(try (replace hb:=zn0 hb)))|refine zs0 ?_|refine zbx ?_ ?_|refine zgx ?_ ?_));(all_goals (try (conv=>whnf)))
 all_goals (exact QAz)
def io (n:Int):Int:=opsL.getD (mix n 1%50).toNat 0
def QtX (o:Int):Prop:=1≤o∧o≤13∨16≤o∧o≤24∨32≤o∧o≤36∨40≤o∧o≤45∨o=48∨o=49∨56≤o∧o≤64
instance (o:Int):Decidable (QtX o):=by unfold QtX;infer_instance
theorem Qt3:∀ q:Nat,q<50→QtX (opsL.getD q 0):=by decide
theorem QwU (n:Int):QtX (io n):=Qt3 _ (by omega)
def ir (n:Int) (d:Int):Int:=mix n 1 / d%6
def ik (n:Int):Int:=mix n 1 / 1048576%24
def Qd1 (n:Int):List SV :=
 if io n≤13 then iv (io n) (ir n 256) (ir n 4096) (ir n 65536) 0
 else if 40≤io n∧io n≤48 then iv (io n) (ir n 256) (if io n=48 then 0 else ir n 4096) 0 (ik n-12)
 else if io n=16∨io n=23∨32≤io n∧io n≤36∨io n=49 then iv (io n) (ir n 256) (ir n 4096) 0 (8*ik n-32)
 else if io n=24 then iv (io n) (ir n 256) 0 0 (ik n*(mix n 1 / 1099511627776%2))
 else if 17≤io n∧io n≤22 then iv (io n) (ir n 256) (ir n 4096) 0 (ik n)
 else if io n=58∨io n=59 then iv (io n) (ir n 256) 0 0 (ik n%8)
 else if io n=60∨io n=61 then iv (io n) (ir n 256) 0 0 (ik n%12)
 else iv (io n) 0 0 0 0
theorem sh8 (x:Int):x / 2^min (Int.toNat 8) IntKind.i64.bits=x / 256:=by rw [show (2:Int)^min (Int.toNat 8) IntKind.i64.bits=256 from rfl]
theorem QCc (x:Int):x / 2^min (Int.toNat 12) IntKind.i64.bits=x / 4096:=by rw [show (2:Int)^min (Int.toNat 12) IntKind.i64.bits=4096 from rfl]
theorem QB2 (x:Int):x / 2^min (Int.toNat 16) IntKind.i64.bits=x / 65536:=by rw [show (2:Int)^min (Int.toNat 16) IntKind.i64.bits=65536 from rfl]
theorem QC9 (x:Int):x / 2^min (Int.toNat 20) IntKind.i64.bits=x / 1048576:=by rw [show (2:Int)^min (Int.toNat 20) IntKind.i64.bits=1048576 from rfl]
theorem QCp (x:Int):x / 2^min (Int.toNat 40) IntKind.i64.bits=x / 1099511627776:=by rw [show (2:Int)^min (Int.toNat 40) IntKind.i64.bits=1099511627776 from rfl]
theorem Qoc (x:Int) (h0:0≤x) (h1:x<9223372036854775808):bits .and .i64 x 1=x%2:=by
 obtain ⟨n,rfl⟩:=Int.eq_ofNat_of_zero_le h0
 have e:((BitVec.ofInt 64 (n:Int)) &&& (BitVec.ofInt 64 1)).toNat=n%2:=by
  rw [BitVec.toNat_and,show (BitVec.ofInt 64 1).toNat=1 from rfl,Nat.and_one_is_mod]
  have:(BitVec.ofInt 64 (n:Int)).toNat=n:=by
   rw [BitVec.toNat_ofInt];simp;omega
  rw [this]
 show IntKind.i64.wrap (((BitVec.ofInt 64 (n:Int)) &&& (BitVec.ofInt 64 1)).toNat:Int)=_
 rw [e,QbI (by omega) (by omega)];omega
theorem QtC (q:Int) (h0:0≤q) (h1:q<50):(isv .i64 opsL)[0+q.toNat * 1]?=some (.int .i64 (opsL.getD q.toNat 0)):=by
 rw [Nat.zero_add,Nat.mul_one]
 exact QhP .i64 opsL q.toNat (by show q.toNat<50;omega)
theorem Qle (n:Int):Fn Tryz.prog 40 [.s (.int .i64 n)] [] (· =⟨.a (.agg (Qd1 n)),[],[]⟩):=by
 have hm:=Qdj n 1
 have ho:=QwU n
 unfold QtX at ho
 have hk:0≤ik n∧ik n<24:=by unfold ik;omega
 have hq:0≤mix n 1%50∧mix n 1%50<50:=by omega
 have a1:bits .and .i64 (mix n 1 / 1099511627776) 1=mix n 1 / 1099511627776%2:=Qoc _ (by omega) (by omega)
 have c1:=QaK (mix n 1) 50 (by omega) (by omega)
 have c2:=QaK (mix n 1 / 256) 6 (by omega) (by omega)
 have c3:=QaK (mix n 1 / 4096) 6 (by omega) (by omega)
 have c4:=QaK (mix n 1 / 65536) 6 (by omega) (by omega)
 have c5:=QaK (mix n 1 / 1048576) 24 (by omega) (by omega)
 have c0:=Qi5 n 1
 have gq:=QtC _ hq.1 hq.2
 have hb2:0≤mix n 1 / 1099511627776%2∧mix n 1 / 1099511627776%2<2:=by omega
 have hkm:0≤ik n*(mix n 1 / 1099511627776%2)∧ik n*(mix n 1 / 1099511627776%2)<24:=by
  rcases (by omega:mix n 1 / 1099511627776%2=0∨mix n 1 / 1099511627776%2=1) with e|e<;>rw [e]<;>omega
 have k1:IntKind.i64.wrap (ik n*(mix n 1 / 1099511627776%2))=ik n*(mix n 1 / 1099511627776%2):=QbI (by omega) (by omega)
 have k2:IntKind.i32.wrap (ik n*(mix n 1 / 1099511627776%2))=ik n*(mix n 1 / 1099511627776%2):=QwS (by omega) (by omega)
 show Fn _ _ _ _ (· =⟨.a (.agg (Qd1 n)),[],[]⟩)
 unfold Qd1
 change Fn _ _ [.s (.int .i64 (mix n 1 / 1048576)),_] _ (· =⟨.a (.s (.int .i64 (ik n))),_,_⟩) at c5
 change Fn _ _ [.s (.int .i64 (mix n 1 / 256)),_] _ (· =⟨.a (.s (.int .i64 (ir n 256))),_,_⟩) at c2
 change Fn _ _ [.s (.int .i64 (mix n 1 / 4096)),_] _ (· =⟨.a (.s (.int .i64 (ir n 4096))),_,_⟩) at c3
 change Fn _ _ [.s (.int .i64 (mix n 1 / 65536)),_] _ (· =⟨.a (.s (.int .i64 (ir n 65536))),_,_⟩) at c4
 change _=some (SV.int .i64 (io n)) at gq
 have fo:=QuD
 have hls:Qau (isv .i64 opsL)=true:=QaH _ _
 generalize isv .i64 opsL=Lc at *
 generalize io n=o at *
 generalize ik n=k at *
 generalize ir n 256=A at *
 generalize ir n 4096=B at *
 generalize ir n 65536=C at *
 generalize hM:mix n 1=M at *
 generalize M / 1099511627776%2=z at *
 refine fnW Tryz.func40 ?_
 (repeat' ((conv=>whnf);first|(intro hb;first|exact zk0 hb|(try (replace hb:=zn0 hb)))|(refine Qal (f:=77) fo [] [] rfl trivial trivial ⟨rfl,QdP⟩ ?_)|(refine Qag (f:=78) (c0) rfl ?_)|(refine Qag (f:=8) (c1) rfl ?_)|(refine Qag (f:=8) (c2) rfl ?_)|(refine Qag (f:=8) (c3) rfl ?_)|(refine Qag (f:=8) (c4) rfl ?_)|(refine Qag (f:=8) (c5) rfl ?_)|(with_reducible first|refine zv (sh8 _) ?_|refine zv (QCc _) ?_|refine zv (QB2 _) ?_|refine zv (QC9 _) ?_|refine zv (QCp _) ?_|refine zv a1 ?_|refine zv k1 ?_|refine zv k2 ?_)|((with_reducible apply Ge.mk (α:=SV)); · exact gq)|refine zs0 ?_|refine zbx ?_ ?_|refine zgx ?_ ?_));(all_goals (try (conv=>whnf)))
 all_goals first
  | (rw [if_pos (by omega)];exact Qan rfl rfl)
  | (rw [if_neg (by omega),if_pos (by omega)];first|(rw [if_pos (by omega)];exact Qan rfl rfl)|(rw [if_neg (by omega)];exact Qan rfl rfl))
  | (rw [if_neg (by omega),if_neg (by omega),if_pos (by omega)];exact Qan rfl rfl)
  | (rw [if_neg (by omega),if_neg (by omega),if_neg (by omega),if_pos (by omega)];exact Qan rfl rfl)
  | (rw [if_neg (by omega),if_neg (by omega),if_neg (by omega),if_neg (by omega),if_pos (by omega)];exact Qan rfl rfl)
  | (rw [if_neg (by omega),if_neg (by omega),if_neg (by omega),if_neg (by omega),if_neg (by omega),if_pos (by omega)];exact Qan rfl rfl)
  | (rw [if_neg (by omega),if_neg (by omega),if_neg (by omega),if_neg (by omega),if_neg (by omega),if_neg (by omega),if_pos (by omega)];exact Qan rfl rfl)
  | (rw [if_neg (by omega),if_neg (by omega),if_neg (by omega),if_neg (by omega),if_neg (by omega),if_neg (by omega),if_neg (by omega)];exact Qan rfl rfl)
def loV (f:Int):Int:=if f=3∨f=7 then -32768 else 0
def hiV (f:Int):Int:=if f=3∨f=7 then 32767 else if f=4∨f=6 then 65535 else if f=5 then 31 else if f=8 then 7 else if f=9 then 11 else 0
theorem Qk8 (f:Int):Fn Tryz.prog 99 [.s (.int .i64 f)] [] (· =⟨.tup [.s (.int .i64 (loV f)),.s (.int .i64 (hiV f))],[],[]⟩):=by
 refine fnW Tryz.func99 ?_
 (repeat' ((conv=>whnf);first|(intro hb;first|exact zk0 hb|(try (replace hb:=zn0 hb)))|refine zs0 ?_|refine zbx ?_ ?_|refine zgx ?_ ?_));(all_goals (try (conv=>whnf)))
 all_goals first
  | (subst hb;exact Qan rfl rfl)
  | (
    apply Qan
    (focus rfl)
    simp only [Qa7]
    rw [loV,hiV,if_neg (by omega),if_neg (by omega),if_neg (by omega),if_neg (by omega),if_neg (by omega),if_neg (by omega)])
def rgV (r:Int):Bool:=decide (0≤r∧r≤15)
theorem Qut (r:Int):Fn Tryz.prog 98 [.s (.int .i64 r)] [] (· =⟨.a (.s (.bool (rgV r))),[],[]⟩):=by
 refine fnW Tryz.func98 ?_
 (repeat' ((conv=>whnf);first|(intro hb;first|exact zk0 hb|(try (replace hb:=zn0 hb)))|refine zs0 ?_|refine zbx ?_ ?_|refine zgx ?_ ?_));(all_goals (try (conv=>whnf)))
 all_goals (apply Qan;(focus rfl);simp only [Qa7];congr 3;grind [rgV])
def rvV (o a b c m:Int):Bool :=
 decide (QaO o≠0∧(0≤a∧a≤15)∧(0≤b∧b≤15)∧(0≤c∧c≤15)∧loV (QaO o)≤m∧m≤hiV (QaO o)∧(QaO o=2∨c=0)∧(QaO o=1→a=0)∧(b=0∨2≤QaO o∧QaO o≤5))
theorem Qg7 (o a b c m:Int) (hm: -2147483648≤m∧m≤2147483647):Fn Tryz.prog 76 [.agg (iv o a b c m)] [] (· =⟨.a (.s (.bool (rvV o a b c m))),[],[]⟩):=by
 unfold rvV
 have hf:=Ql9 o
 have hbd:=Qk8 (QaO o)
 generalize QaO o=f at *
 generalize loV f=lo at *
 generalize hiV f=hi at *
 refine fnW Tryz.func76 ?_
 unfold iv
 (repeat' ((conv=>whnf);first|(intro hb;first|exact zk0 hb|(try (replace hb:=zn0 hb)))|(refine Qag (f:=90) (hf) rfl ?_)|(refine Qag (f:=99) (hbd) rfl ?_)|(refine Qag (f:=98) (Qut _) rfl ?_)|refine zs0 ?_|refine zbx ?_ ?_|refine zgx ?_ ?_));(all_goals (try (conv=>whnf)))
 all_goals
  apply Qan
  (focus rfl)
  simp only [Qa7]
  congr 3
  try simp only [rgV,decide_eq_true_eq,decide_eq_false_iff_not,Bool.not_eq_true',Bool.not_eq_false'] at *
  first
   | (refine (decide_eq_false ?_).symm;omega)
   | (refine (decide_eq_true ?_).symm;omega)
   | (rw [Bool.eq_iff_iff];simp only [decide_eq_true_eq,beq_iff_eq];omega)
def QqH (o a b c m:Int):Int:=o*16777216+a*1048576+b*65536+m%65536+c
theorem QuF (p q k:Nat) (h:q<2^k):(2^k*p) ||| q=2^k*p+q:=(Nat.two_pow_add_eq_or_of_lt h p).symm
theorem QAw (x:Int) (n:Nat) (hn:n≤32):x*2^min ((n:Nat):Int).toNat IntKind.u32.bits=x*2^n:=by
 have:min ((n:Nat):Int).toNat IntKind.u32.bits=n:=by simp only [Int.toNat_natCast,IntKind.bits];omega
 rw [this]
theorem QwG (a:Nat) (ha:a<4294967296):(BitVec.ofInt 32 (a:Int)).toNat=a:=by
 rw [BitVec.toNat_ofInt];simp;omega
theorem Qud (a b:Nat) (ha:a<4294967296) (hb:b<4294967296):bits .or .u32 (a:Int) b=((a ||| b:Nat):Int):=by
 have h:a ||| b<2^32:=Nat.or_lt_two_pow (by simpa using ha) (by simpa using hb)
 show IntKind.u32.wrap (((BitVec.ofInt 32 (a:Int)) ||| (BitVec.ofInt 32 (b:Int))).toNat:Int)=_
 rw [BitVec.toNat_or,QwG a ha,QwG b hb,Qbo]
 simp only [Nat.reducePow] at h;omega
theorem Qhe (x y:Int) (k:Nat) (p q:Nat) (hx:x=((2^k*p:Nat):Int)) (hy:y=(q:Int)) (hq:q<2^k) (h1:2^k*p<4294967296) (h2:q<4294967296):bits .or .u32 x y=x+y:=by
 subst hx hy
 rw [Qud _ _ h1 h2,QuF p q k hq];simp
theorem Qed {o:Int} (h:QaO o≠0):1≤o∧o≤64:=by
 by_cases h1:1≤o∧o≤64
 ·exact h1
 ·refine absurd ?_ h
  unfold QaO
  repeat' first
   | rfl
   | (apply Qk4<;>intro _)
   | (exfalso;omega)
theorem QCU:loV 2=0∧hiV 2=0:=⟨rfl,rfl⟩
theorem Qm0 (o a b c m:Int) (hm: -2147483648≤m∧m≤2147483647) (hv:rvV o a b c m=true):Fn Tryz.prog 39 [.agg (iv o a b c m)] [] (· =⟨.tup [.s (.int .u32 (QqH o a b c m)),.s (.bool true)],[],[]⟩):=by
 have f1:=Qg7 o a b c m hm
 rw [hv] at f1
 have hv:=of_decide_eq_true hv
 obtain ⟨v1,_,_,_,v5,v6,v7,_,_⟩:=hv
 have ho:=Qed v1
 have hcm:c=0∨m=0:=by
  rcases v7 with h|h
  ·rw [h] at v5 v6;have:=QCU;right;omega
  ·exact .inl h
 have w1:IntKind.u32.wrap o=o:=Qcf (by omega) (by omega)
 have w2:IntKind.u32.wrap a=a:=Qcf (by omega) (by omega)
 have w3:IntKind.u32.wrap b=b:=Qcf (by omega) (by omega)
 have w4:IntKind.u32.wrap c=c:=Qcf (by omega) (by omega)
 have w5:IntKind.u32.wrap m=m%4294967296:=Qbo m
 have s1:IntKind.u32.wrap (o*2^min (Int.toNat 24) IntKind.u32.bits)=o*16777216:=by
  rw [show (2:Int)^min (Int.toNat 24) IntKind.u32.bits=16777216 from rfl];exact Qcf (by omega) (by omega)
 have s2:IntKind.u32.wrap (a*2^min (Int.toNat 20) IntKind.u32.bits)=a*1048576:=by
  rw [show (2:Int)^min (Int.toNat 20) IntKind.u32.bits=1048576 from rfl];exact Qcf (by omega) (by omega)
 have s3:IntKind.u32.wrap (b*2^min (Int.toNat 16) IntKind.u32.bits)=b*65536:=by
  rw [show (2:Int)^min (Int.toNat 16) IntKind.u32.bits=65536 from rfl];exact Qcf (by omega) (by omega)
 have e1:bits .or .u32 (o*16777216) (a*1048576)=o*16777216+a*1048576:=Qhe _ _ 24 o.toNat (a*1048576).toNat (by simp only [Nat.reducePow];omega) (by omega) (by simp only [Nat.reducePow];omega) (by simp only [Nat.reducePow];omega) (by omega)
 have e2:bits .or .u32 (o*16777216+a*1048576) (b*65536)=o*16777216+a*1048576+b*65536:=Qhe _ _ 20 (16*o+a).toNat (b*65536).toNat (by simp only [Nat.reducePow];omega) (by omega) (by simp only [Nat.reducePow];omega) (by simp only [Nat.reducePow];omega) (by omega)
 have e3:bits .and .u32 (m%4294967296) 65535=m%65536:=by
  have:=Qbu (m%4294967296).toNat 16 (by omega) (by omega)
  rw [show (((m%4294967296).toNat:Nat):Int)=m%4294967296 by omega] at this
  have e:bits .and .u32 (m%4294967296) 65535=(((m%4294967296).toNat%2^16:Nat):Int):=this
  rw [e];simp only [Nat.reducePow];omega
 have e4:bits .or .u32 (o*16777216+a*1048576+b*65536) (m%65536)=o*16777216+a*1048576+b*65536+m%65536:=Qhe _ _ 16 (256*o+16*a+b).toNat (m%65536).toNat (by simp only [Nat.reducePow];omega) (by omega) (by simp only [Nat.reducePow];omega) (by simp only [Nat.reducePow];omega) (by omega)
 have e5:bits .or .u32 (o*16777216+a*1048576+b*65536+m%65536) c=QqH o a b c m:=by
  unfold QqH
  rcases hcm with h|h
  ·subst h
   exact Qhe _ _ 0 (o*16777216+a*1048576+b*65536+m%65536).toNat 0 (by simp only [Nat.pow_zero];omega) rfl (by simp) (by simp only [Nat.pow_zero];omega) (by omega)
  ·subst h
   exact Qhe _ _ 16 (256*o+16*a+b).toNat c.toNat (by simp only [Nat.reducePow];omega) (by omega) (by simp only [Nat.reducePow];omega) (by simp only [Nat.reducePow];omega) (by omega)
 refine fnW Tryz.func39 ?_
 unfold iv
 (repeat' ((conv=>whnf);first|(intro hb;first|exact zk0 hb|(try (replace hb:=zn0 hb)))|(refine Qag (f:=76) (f1) rfl ?_)|(with_reducible first|refine zv w1 ?_|refine zv w2 ?_|refine zv w3 ?_|refine zv w4 ?_|refine zv w5 ?_|refine zv s1 ?_|refine zv s2 ?_|refine zv s3 ?_|refine zv e1 ?_|refine zv e2 ?_|refine zv e3 ?_|refine zv e4 ?_|refine zv e5 ?_)|refine zs0 ?_|refine zbx ?_ ?_|refine zgx ?_ ?_));(all_goals (try (conv=>whnf)))
 all_goals exact Qan rfl rfl
theorem Qit:∀ k:Nat,k<65→QaO (k:Int)≠0→Qfy k=true∧Qqg k= !(QaO k==1)∧Qv8 k=decide (2≤QaO k∧QaO k≤5)∧Qp7 k=(QaO k==2)∧Qf3 k=loV (QaO k)∧Qgi k=hiV (QaO k):=by decide
theorem QvB {o a b c m:Int} (hv:rvV o a b c m=true):0≤QqH o a b c m∧QqH o a b c m<4294967296:=by
 obtain ⟨v1,_,_,_,_,_,_,_,_⟩:=of_decide_eq_true hv
 have ho:=Qed v1
 unfold QqH;omega
theorem Qtz (n:Int):∃ o a b c m:Int,Qd1 n=iv o a b c m∧rvV o a b c m=true∧ -2147483648≤m∧m≤2147483647∧o=io n:=by
 have ho:=QwU n
 unfold QtX at ho
 have hk:0≤ik n∧ik n<24:=by unfold ik;omega
 have hr:∀ d,0≤ir n d∧ir n d<6:=fun d=>by unfold ir;omega
 have r1:=hr 256
 have r2:=hr 4096
 have r3:=hr 65536
 have hkm:0≤ik n*(mix n 1 / 1099511627776%2)∧ik n*(mix n 1 / 1099511627776%2)<24:=by
  rcases (by omega:mix n 1 / 1099511627776%2=0∨mix n 1 / 1099511627776%2=1) with e|e<;>rw [e]<;>omega
 unfold Qd1
 generalize io n=o at *
 generalize ik n=k at *
 generalize ir n 256=A at *
 generalize ir n 4096=B at *
 generalize ir n 65536=C at *
 generalize k*(mix n 1 / 1099511627776%2)=kz at *
 have fin:∀ (f a b c m:Int),QaO o=f→(f≠0∧(0≤a∧a≤15)∧(0≤b∧b≤15)∧(0≤c∧c≤15)∧loV f≤m∧m≤hiV f∧(f=2∨c=0)∧(f=1→a=0)∧(b=0∨2≤f∧f≤5))→rvV o a b c m=true:=fun f a b c m hf h=>by
  unfold rvV;rw [hf];exact decide_eq_true h
 have fv:∀ f:Int,(QaO o=f)↔(QaO o=f):=fun f=>Iff.rfl
 by_cases c1:o≤13
 ·rw [if_pos c1]
  exact ⟨o,A,B,C,0,rfl,fin 2 _ _ _ _ (by unfold QaO;rw [if_pos (by omega)]) ⟨by omega,by omega,by omega,by omega,by decide,by decide,by omega,by omega,by omega⟩,by omega,by omega,rfl⟩
 rw [if_neg c1]
 by_cases c2:40≤o∧o≤48
 ·rw [if_pos c2]
  by_cases c3:o=48
  ·rw [if_pos c3]
   exact ⟨o,A,0,0,k-12,rfl,fin 7 _ _ _ _ (by subst c3;rfl) ⟨by omega,by omega,by omega,by omega,by show (-32768:Int)≤_;omega,by show _≤(32767:Int);omega,by omega,by omega,by omega⟩,by omega,by omega,rfl⟩
  ·rw [if_neg c3]
   exact ⟨o,A,B,0,k-12,rfl,fin 3 _ _ _ _ (by unfold QaO;rw [if_neg (by omega),if_pos (by omega)]) ⟨by omega,by omega,by omega,by omega,by show (-32768:Int)≤_;omega,by show _≤(32767:Int);omega,by omega,by omega,by omega⟩,by omega,by omega,rfl⟩
 rw [if_neg c2]
 by_cases c4:o=16∨o=23∨32≤o∧o≤36∨o=49
 ·rw [if_pos c4]
  exact ⟨o,A,B,0,8*k-32,rfl,fin 3 _ _ _ _ (by unfold QaO;rw [if_neg (by omega),if_pos (by omega)]) ⟨by omega,by omega,by omega,by omega,by show (-32768:Int)≤_;omega,by show _≤(32767:Int);omega,by omega,by omega,by omega⟩,by omega,by omega,rfl⟩
 rw [if_neg c4]
 by_cases c5:o=24
 ·rw [if_pos c5]
  exact ⟨o,A,0,0,kz,rfl,fin 6 _ _ _ _ (by subst c5;rfl) ⟨by omega,by omega,by omega,by omega,by show (0:Int)≤_;omega,by show _≤(65535:Int);omega,by omega,by omega,by omega⟩,by omega,by omega,rfl⟩
 rw [if_neg c5]
 by_cases c6:17≤o∧o≤22
 ·rw [if_pos c6]
  by_cases c7:o≤19
  ·exact ⟨o,A,B,0,k,rfl,fin 4 _ _ _ _ (by unfold QaO;rw [if_neg (by omega),if_neg (by omega),if_pos (by omega)]) ⟨by omega,by omega,by omega,by omega,by show (0:Int)≤_;omega,by show _≤(65535:Int);omega,by omega,by omega,by omega⟩,by omega,by omega,rfl⟩
  ·exact ⟨o,A,B,0,k,rfl,fin 5 _ _ _ _ (by unfold QaO;rw [if_neg (by omega),if_neg (by omega),if_neg (by omega),if_pos (by omega)]) ⟨by omega,by omega,by omega,by omega,by show (0:Int)≤_;omega,by show _≤(31:Int);omega,by omega,by omega,by omega⟩,by omega,by omega,rfl⟩
 rw [if_neg c6]
 by_cases c8:o=58∨o=59
 ·rw [if_pos c8]
  exact ⟨o,A,0,0,k%8,rfl,fin 8 _ _ _ _ (by rcases c8 with rfl|rfl<;>rfl) ⟨by omega,by omega,by omega,by omega,by show (0:Int)≤_;omega,by show _≤(7:Int);omega,by omega,by omega,by omega⟩,by omega,by omega,rfl⟩
 rw [if_neg c8]
 by_cases c9:o=60∨o=61
 ·rw [if_pos c9]
  exact ⟨o,A,0,0,k%12,rfl,fin 9 _ _ _ _ (by rcases c9 with rfl|rfl<;>rfl) ⟨by omega,by omega,by omega,by omega,by show (0:Int)≤_;omega,by show _≤(11:Int);omega,by omega,by omega,by omega⟩,by omega,by omega,rfl⟩
 rw [if_neg c9]
 exact ⟨o,0,0,0,0,rfl,fin 1 _ _ _ _ (by
  have:o=56∨o=57∨o=62∨o=63∨o=64:=by omega
  rcases this with rfl|rfl|rfl|rfl|rfl<;>rfl) ⟨by omega,by omega,by omega,by omega,by decide,by decide,by omega,by omega,by omega⟩,by omega,by omega,rfl⟩
def Qrh:List SV→Nat
 | [.int _ o,.int _ a,.int _ b,.int _ c,.int _ m]=>(QqH o a b c m).toNat
 | _=>0
theorem Qh2 (n:Int):Fn Tryz.prog 39 [.agg (Qd1 n)] [] (· =⟨.tup [.s (.int .u32 (Qrh (Qd1 n):Nat)),.s (.bool true)],[],[]⟩)∧Qrh (Qd1 n)<4294967296∧∃ o a b c m:Int,Qd1 n=iv o a b c m:=by
 obtain ⟨o,a,b,c,m,h1,h2,h3,h4,_⟩:=Qtz n
 have he:=QvB h2
 have e:Qrh (Qd1 n)=(QqH o a b c m).toNat:=by rw [h1];rfl
 rw [e,h1,Int.toNat_of_nonneg he.1]
 exact ⟨Qm0 o a b c m ⟨h3,h4⟩ h2,by omega,o,a,b,c,m,rfl⟩
theorem QBl (w:Nat) (hw:w<4294967296):IntKind.i64.wrap ((w:Int) / 2^min (Int.toNat 24) IntKind.u32.bits)=dOp w:=by
 rw [show (2:Int)^min (Int.toNat 24) IntKind.u32.bits=16777216 from rfl,QbI (by omega) (by omega)]
 unfold dOp;simp only [Nat.reducePow];omega
theorem e_a (w:Nat) (hw:w<4294967296):bits .and .u32 ((w:Int) / 2^min (Int.toNat 20) IntKind.u32.bits) 15=dA w:=Qdk w 20 4 hw (by omega) (by omega)
theorem e_b (w:Nat) (hw:w<4294967296):bits .and .u32 ((w:Int) / 2^min (Int.toNat 16) IntKind.u32.bits) 15=dB w:=Qdk w 16 4 hw (by omega) (by omega)
theorem e_i (w:Nat) (hw:w<4294967296):bits .and .u32 (w:Int) 65535=((dI w:Nat):Int):=by
 have:=Qbu w 16 hw (by omega)
 unfold dI
 rw [Nat.pow_zero,Nat.div_one];exact this
theorem Qiw (w:Int) (l:Int):w / 2^min l.toNat IntKind.u32.bits=w / 2^min l.toNat IntKind.u32.bits:=rfl
theorem QCa (x:Nat) (hx:x<65536):IntKind.i32.wrap (IntKind.i16.wrap (x:Int))=sx x:=by
 have e:IntKind.i16.wrap (x:Int)=sx x:=by
  unfold IntKind.wrap sx
  simp only [IntKind.signed,IntKind.bits,Bool.true_and,decide_eq_true_eq]
  by_cases h:x<32768
  ·rw [if_pos h,if_neg (by simp;omega)];omega
  ·rw [if_neg h,if_pos (by simp;omega)];omega
 rw [e]
 have: -32768≤sx x∧sx x≤32767:=by unfold sx;split<;>omega
 exact QwS (by omega) (by omega)
theorem QmK (o:Int):0≤QaO o∧QaO o≤9:=by
 unfold QaO
 repeat' split
 all_goals omega
theorem QlR (o:Int) (h:QaO o=0):Qfy o=false:=by
 unfold Qfy Qqg
 rw [Bool.or_eq_false_iff,decide_eq_false_iff_not,decide_eq_false_iff_not]
 unfold QaO at h
 constructor
 ·intro h1
  repeat' split at h
  all_goals omega
 ·intro h1
  repeat' split at h
  all_goals omega
theorem Qt7 (w:Nat) (hw:w<4294967296) (hF:QaO (dOp w)≠0):rvV (dOp w) (dA w) (dB w) (dC w) (dM w)=dOk w:=by
 have ho:=Qed hF
 obtain ⟨u0,u1,u2,u3,u4,u5⟩:=Qit (dOp w).toNat (by omega) (by rw [Int.toNat_of_nonneg (by omega)];exact hF)
 rw [Int.toNat_of_nonneg (by omega)] at u0 u1 u2 u3 u4 u5
 have ha:0≤dA w∧dA w≤15:=by unfold dA;simp only [Nat.reducePow];omega
 have hb:0≤dB w∧dB w≤15:=by unfold dB;simp only [Nat.reducePow];omega
 have hc0:0≤dC w:=by unfold dC;split<;>omega
 have hcz:QaO (dOp w)≠2→dC w=0:=fun h=>by unfold dC;rw [u3,if_neg (by simp [h])]
 have hr:=QmK (dOp w)
 unfold rvV dOk Qgh
 rw [u0,u1,u2,u3,u4,u5,Bool.true_and,Bool.eq_iff_iff]
 generalize QaO (dOp w)=F at *
 generalize dA w=a at *
 generalize dB w=b at *
 generalize dC w=c at *
 generalize dM w=m at *
 generalize loV F=lo at *
 generalize hiV F=hi at *
 clear u0 u1 u2 u3 u4 u5
 have hcs:F=1∨F=2∨(3≤F∧F≤5)∨6≤F:=by omega
 simp only [Bool.and_eq_true,decide_eq_true_eq,Bool.true_and]
 rcases hcs with h|h|h|h
 ·subst h
  have:=hcz (by omega)
  subst this
  simp only [show ((1:Int)==1)=true from rfl,show ((1:Int)==2)=false from rfl,Bool.not_true,Qm4,beq_iff_eq,show decide ((2:Int)≤1∧(1:Int)≤5)=false from rfl,Decidable.imp_iff_not_or,true_or,or_true,true_and,and_true,not_true_eq_false,false_or]
  omega
 ·subst h
  simp only [show ((2:Int)==1)=false from rfl,show ((2:Int)==2)=true from rfl,Bool.not_false,Qm4,Bool.and_eq_true,decide_eq_true_eq,show decide ((2:Int)≤2∧(2:Int)≤5)=true from rfl,Decidable.imp_iff_not_or,true_or,or_true,true_and,and_true,not_true_eq_false,false_or]
  omega
 ·have:=hcz (by omega)
  subst this
  have e1:(F==1)=false:=by simp;omega
  have e2:(F==2)=false:=by simp;omega
  have e3:decide ((2:Int)≤F∧F≤5)=true:=decide_eq_true (by omega)
  simp only [e1,e2,e3,Bool.not_false,Qm4,Bool.and_eq_true,decide_eq_true_eq,beq_iff_eq,Decidable.imp_iff_not_or,true_or,or_true,true_and,and_true,not_true_eq_false,false_or]
  omega
 ·have:=hcz (by omega)
  subst this
  have e1:(F==1)=false:=by simp;omega
  have e2:(F==2)=false:=by simp;omega
  have e3:decide ((2:Int)≤F∧F≤5)=false:=decide_eq_false (by omega)
  simp only [e1,e2,e3,Bool.not_false,Qm4,Bool.and_eq_true,decide_eq_true_eq,beq_iff_eq,Decidable.imp_iff_not_or,true_or,or_true,true_and,and_true,not_true_eq_false,false_or]
  omega
theorem Qka (w:Nat) (hw:w<4294967296):Fn Tryz.prog 69 [.s (.int .u32 w)] [] (· =⟨.tup [.agg (iv (kz (dOk w) (dOp w)) (kz (dOk w) (dA w)) (kz (dOk w) (dB w)) (kz (dOk w) (dC w)) (kz (dOk w) (dM w))),.s (.bool (dOk w))],[],[]⟩):=by
 have hf:=Ql9 (dOp w)
 have w1:=QBl w hw
 have w2:=e_a w hw
 have w3:=e_b w hw
 have w4:=e_i w hw
 have ha:0≤dA w∧dA w≤15:=by unfold dA;simp only [Nat.reducePow];omega
 have hb0:0≤dB w∧dB w≤15:=by unfold dB;simp only [Nat.reducePow];omega
 have w5:IntKind.i64.wrap (dA w)=dA w:=QbI (by omega) (by omega)
 have w6:IntKind.i64.wrap (dB w)=dB w:=QbI (by omega) (by omega)
 have hIl:dI w<65536:=by unfold dI;simp only [Nat.reducePow];omega
 by_cases hF:QaO (dOp w)=0
 ·have hd:dOk w=false:=by unfold dOk;rw [QlR _ hF];rfl
  rw [hF] at hf
  rw [hd]
  generalize dOp w=o at *
  generalize dA w=a at *
  generalize dB w=b at *
  refine fnW Tryz.func69 ?_
  (repeat' ((conv=>whnf);first|(intro hb;first|exact zk0 hb|(try (replace hb:=zn0 hb)))|(with_reducible first|refine zv (Qiw _ _) ?_|refine zv w1 ?_|refine zv w2 ?_|refine zv w3 ?_|refine zv w4 ?_|refine zv w5 ?_|refine zv w6 ?_)|(refine Qag (f:=90) (hf) rfl ?_)|refine zs0 ?_|refine zbx ?_ ?_|refine zgx ?_ ?_));(all_goals (try (conv=>whnf)))
  all_goals first|exact Qan rfl rfl
 ·have ho:=Qed hF
  obtain ⟨u0,u1,u2,u3,u4,u5⟩:=Qit (dOp w).toNat (by omega) (by rw [Int.toNat_of_nonneg (by omega)];exact hF)
  rw [Int.toNat_of_nonneg (by omega)] at u3 u4
  have hm: -32768≤dM w∧dM w≤65535:=by
   unfold dM sx
   repeat' split
   all_goals omega
  have hval:=Qg7 (dOp w) (dA w) (dB w) (dC w) (dM w) (by omega)
  rw [Qt7 w hw hF] at hval
  have hC2:QaO (dOp w)=2→dC w=((dI w:Nat):Int)∧dM w=0:=fun h=>by unfold dC dM;rw [u3,if_pos (by simp [h]),if_pos (by simp [h])];exact ⟨rfl,rfl⟩
  have hC3:QaO (dOp w)=3∨QaO (dOp w)=7→dC w=0∧dM w=sx (dI w):=fun h=>by
   have e1:loV (QaO (dOp w))= -32768:=by unfold loV;rw [if_pos h]
   unfold dC dM;rw [u3,if_neg (by simp;omega),if_neg (by simp;omega),u4,e1,if_pos (by omega)];exact ⟨rfl,rfl⟩
  have hC9:QaO (dOp w)≠2→QaO (dOp w)≠3→QaO (dOp w)≠7→dC w=0∧dM w=((dI w:Nat):Int):=fun h h3 h7=>by
   have e1:loV (QaO (dOp w))=0:=by unfold loV;rw [if_neg (by omega)]
   unfold dC dM;rw [u3,if_neg (by simp [h]),if_neg (by simp [h]),u4,e1,if_neg (by omega)];exact ⟨rfl,rfl⟩
  have w7:IntKind.i64.wrap ((dI w:Nat):Int)=((dI w:Nat):Int):=QbI (by omega) (by omega)
  have w8:IntKind.i32.wrap (IntKind.i16.wrap ((dI w:Nat):Int))=sx (dI w):=QCa _ hIl
  have w9:IntKind.i32.wrap ((dI w:Nat):Int)=((dI w:Nat):Int):=QwS (by omega) (by omega)
  have k16:IntKind.i16.wrap ((dI w:Nat):Int)=IntKind.i16.wrap ((dI w:Nat):Int):=rfl
  have hcase:QaO (dOp w)=2∨(QaO (dOp w)=3∨QaO (dOp w)=7)∨(QaO (dOp w)≠2∧QaO (dOp w)≠3∧QaO (dOp w)≠7):=by omega
  rcases hcase with h|h|h
  ·obtain ⟨q1,q2⟩:=hC2 h
   rw [q1,q2] at hval ⊢
   clear hC2 hC3 hC9 u0 u1 u2 u3 u4 u5 q1 q2 hm ho
   generalize QaO (dOp w)=F at *
   generalize dOk w=ok at *
   generalize dOp w=o at *
   generalize dA w=a at *
   generalize dB w=b at *
   generalize dI w=I at *
   cases ok
   all_goals
    refine fnW Tryz.func69 ?_
    (repeat' ((conv=>whnf);first|(intro hb;first|exact zk0 hb|(try (replace hb:=zn0 hb)))|(with_reducible first|refine zv (Qiw _ _) ?_|refine zv w1 ?_|refine zv w2 ?_|refine zv w3 ?_|refine zv w4 ?_|refine zv w5 ?_|refine zv w6 ?_|refine zv w7 ?_)|(refine Qag (f:=90) (hf) rfl ?_)|(refine Qag (f:=76) (hval) rfl ?_)|refine zs0 ?_|refine zbx ?_ ?_|refine zgx ?_ ?_));(all_goals (try (conv=>whnf)))
    all_goals first|exact Qan rfl rfl
  ·obtain ⟨q1,q2⟩:=hC3 h
   rw [q1,q2] at hval ⊢
   clear hC2 hC3 hC9 u0 u1 u2 u3 u4 u5 q1 q2 hm ho
   generalize QaO (dOp w)=F at *
   generalize dOk w=ok at *
   generalize dOp w=o at *
   generalize dA w=a at *
   generalize dB w=b at *
   generalize sx (dI w)=S at *
   generalize dI w=I at *
   cases ok
   all_goals
    refine fnW Tryz.func69 ?_
    (repeat' ((conv=>whnf);first|(intro hb;first|exact zk0 hb|(try (replace hb:=zn0 hb)))|(with_reducible first|refine zv (Qiw _ _) ?_|refine zv w1 ?_|refine zv w2 ?_|refine zv w3 ?_|refine zv w4 ?_|refine zv w5 ?_|refine zv w6 ?_|refine zv k16 ?_|refine zv w8 ?_)|(refine Qag (f:=90) (hf) rfl ?_)|(refine Qag (f:=76) (hval) rfl ?_)|refine zs0 ?_|refine zbx ?_ ?_|refine zgx ?_ ?_));(all_goals (try (conv=>whnf)))
    all_goals first|exact Qan rfl rfl
  ·obtain ⟨q1,q2⟩:=hC9 h.1 h.2.1 h.2.2
   rw [q1,q2] at hval ⊢
   clear hC2 hC3 hC9 u0 u1 u2 u3 u4 u5 q1 q2 hm ho
   generalize QaO (dOp w)=F at *
   generalize dOk w=ok at *
   generalize dOp w=o at *
   generalize dA w=a at *
   generalize dB w=b at *
   generalize dI w=I at *
   cases ok
   all_goals
    refine fnW Tryz.func69 ?_
    (repeat' ((conv=>whnf);first|(intro hb;first|exact zk0 hb|(try (replace hb:=zn0 hb)))|(with_reducible first|refine zv (Qiw _ _) ?_|refine zv w1 ?_|refine zv w2 ?_|refine zv w3 ?_|refine zv w4 ?_|refine zv w5 ?_|refine zv w6 ?_|refine zv w9 ?_)|(refine Qag (f:=90) (hf) rfl ?_)|(refine Qag (f:=76) (hval) rfl ?_)|refine zs0 ?_|refine zbx ?_ ?_|refine zgx ?_ ?_));(all_goals (try (conv=>whnf)))
    all_goals first|exact Qan rfl rfl
theorem Qwo (P:Nat) (h:P<4294967296):IntKind.u32.wrap (P:Int)=(P:Nat):=Qcf (by omega) (by omega)
def anV (a b:Nat):Nat:=(bits .andNot .u32 (a:Int) (b:Int)).toNat
theorem QmM (a b:Nat):bits .andNot .u32 (a:Int) (b:Int)=((anV a b:Nat):Int)∧anV a b<4294967296:=by
 have h:0≤bits .andNot .u32 (a:Int) (b:Int)∧bits .andNot .u32 (a:Int) (b:Int)<4294967296:=by
  show 0≤IntKind.u32.wrap _∧IntKind.u32.wrap _<4294967296
  rw [Qbo];omega
 unfold anV
 omega
def zrL (xs:List Nat) (v:Nat):Nat→List Nat
 | 0=>xs
 | j+1=>(zrL xs v j).set (v*32+j) 0
theorem QfF (xs:List Nat) (v:Nat):∀ j,(zrL xs v j).length=xs.length
 | 0=>rfl
 | j+1=>by unfold zrL;rw [List.length_set,QfF xs v j]
theorem QpY (xs:List Nat) (v:Nat) (h:∀ y∈xs,y<4294967296):∀ j,∀ y∈zrL xs v j,y<4294967296
 | 0=>h
 | j+1=>fun y hy=>by
  unfold zrL at hy
  rcases List.mem_or_eq_of_mem_set hy with h1|h1
  ·exact QpY xs v h j y h1
  ·omega
def gvQ (bg n:Nat) (p:Int) (v:Nat):Prop:=p=10∧Qbk n v=true∧bg / 2^v%2=0
instance (bg n:Nat) (p:Int) (v:Nat):Decidable (gvQ bg n p v):=by unfold gvQ;infer_instance
def Qlx (bg n:Nat) (p:Int) (v:Nat):Nat:=if gvQ bg n p v then bg ||| 2^v else if p=11∧(v:Int)<32 then anV bg (2^v) else bg
def Qhk (xs:List Nat) (bg n:Nat) (p:Int) (v:Nat):List Nat:=if gvQ bg n p v then zrL xs v 32 else xs
def QvX (n v j:Nat) (X:List SV) (bt bg:Nat):St :=
 ⟨[(1,.a (.s (.sl 0 0 n))),(3,.a (.s (.int .u32 v))),(4,.a (.s (.ptr 1 0))),(8,.a (.s (.ptr 2 0))),(9,.a (.s (.int .i64 j)))],[(0,some ⟨true,1,X⟩),(1,some ⟨true,1,[.int .u32 bt,.int .u32 bg]⟩),(2,some ⟨true,1,[.int .u32 0,.int .u32 0]⟩)],[0]⟩
theorem Qnf (bt bg:Nat) (hb:bg<4294967296) (xs:List Nat) (n:Nat) (hl:xs.length=n) (hn:n≤1000000) (p:Int) (v:Nat) (hv:v<4294967296) (hq:¬ gvQ bg n p v) :
  Fn Tryz.prog 153 [.agg [.int .u32 bt,.int .u32 bg],.s (.sl 0 0 n),.s (.int .i64 p),.s (.int .u32 v)] [⟨true,1,wsv xs⟩] (· =⟨.a (.agg [.int .u32 bt,.int .u32 (Qlx bg n p v)]),[(0,some ⟨true,1,wsv (Qhk xs bg n p v)⟩)],[]⟩):=by
 have q1:=QcV xs n hl (by omega) v hv
 have hsx:=Qaa xs
 have hmp:=Qbe n
 have hmn:mpg n*32≤n:=by unfold mpg;split<;>omega
 have han:=(QmM bg (2^v)).1
 have hpb:Qbk n v=true→v<mpg n:=fun h=>by unfold Qbk at h;have:=of_decide_eq_true h;omega
 unfold Qlx Qhk
 rw [if_neg hq,if_neg hq]
 unfold gvQ at hq
 by_cases h11:p=11
 ·subst h11
  by_cases hv32:(v:Int)<32
  ·rw [if_pos ⟨rfl,hv32⟩]
   have hpw:(2:Nat)^v<4294967296:=by
    have:=Nat.pow_lt_pow_right (a:=2) (by omega) (show v<32 by omega)
    simpa using this
   have s3:(1:Int)*2^min ((v:Nat):Int).toNat IntKind.u32.bits=((2^v:Nat):Int):=by rw [QAw 1 v (by omega)];simp
   have s4:IntKind.u32.wrap ((2^v:Nat):Int)=((2^v:Nat):Int):=Qwo _ hpw
   have s4':IntKind.u32.wrap ((1:Int)*2^min ((v:Nat):Int).toNat IntKind.u32.bits)=((2^v:Nat):Int):=by rw [s3,s4]
   clear hq hpb
   generalize 2^v=pw at *
   generalize anV bg pw=b2 at *
   generalize wsv xs=XX at *
   refine fnW Tryz.func153 ?_
   (repeat' ((conv=>whnf);first|(intro hb;first|exact zk2 hb|(try (replace hb:=zn0 hb)))|(with_reducible first|refine zv s4' ?_|refine zv s3 ?_|refine zv s4 ?_|refine zv han ?_)|refine zst ?_|refine zbx ?_ ?_|refine zgx ?_ ?_|refine eqR ?_));(all_goals (try (conv=>whnf)))
   all_goals first|(exact Qbr)|(exfalso;simp at hb;omega)
  ·rw [if_neg (fun h=>hv32 h.2)]
   clear hq hpb han
   generalize wsv xs=XX at *
   refine fnW Tryz.func153 ?_
   (repeat' ((conv=>whnf);first|(intro hb;first|exact zk2 hb|(try (replace hb:=zn0 hb)))|refine zst ?_|refine zbx ?_ ?_|refine zgx ?_ ?_|refine eqR ?_));(all_goals (try (conv=>whnf)))
   all_goals first|(exact Qbr)|(exfalso;simp at hb;omega)
 rw [if_neg (fun h=>h11 h.1)]
 by_cases h10:p=10
 ·subst h10
  by_cases h2:Qbk n v=true
  ·rw [h2] at q1
   have hvm:=hpb h2
   have hv32:v<32:=by omega
   have h3:bg / 2^v%2=1:=by
    have:¬ bg / 2^v%2=0:=fun h=>hq ⟨rfl,h2,h⟩
    omega
   have s1:=Qj4 bg v hv32
   have s2:=QgU (bg / 2^v) (Nat.lt_of_le_of_lt (Nat.div_le_self _ _) hb)
   rw [h3] at s2
   clear hq hpb han h3
   generalize bg / 2^v=bv at *
   generalize wsv xs=XX at *
   refine fnW Tryz.func153 ?_
   (repeat' ((conv=>whnf);first|(intro hb;first|exact zk2 hb|(try (replace hb:=zn0 hb)))|(with_reducible first|refine zv s1 ?_|refine zv s2 ?_)|(refine Qay q1 ?_)|refine zst ?_|refine zbx ?_ ?_|refine zgx ?_ ?_|refine eqR ?_));(all_goals (try (conv=>whnf)))
   all_goals first|(exact Qbr)|(exfalso;simp at hb;omega)
  ·rw [Bool.eq_false_iff.2 h2] at q1
   clear hq hpb han
   generalize wsv xs=XX at *
   refine fnW Tryz.func153 ?_
   (repeat' ((conv=>whnf);first|(intro hb;first|exact zk2 hb|(try (replace hb:=zn0 hb)))|(refine Qay q1 ?_)|refine zst ?_|refine zbx ?_ ?_|refine zgx ?_ ?_|refine eqR ?_));(all_goals (try (conv=>whnf)))
   all_goals first|(exact Qbr)|(exfalso;simp at hb;omega)
 clear hq hpb han
 generalize wsv xs=XX at *
 refine fnW Tryz.func153 ?_
 (repeat' ((conv=>whnf);first|(intro hb;first|exact zk2 hb|(try (replace hb:=zn0 hb)))|refine zst ?_|refine zbx ?_ ?_|refine zgx ?_ ?_|refine eqR ?_));(all_goals (try (conv=>whnf)))
 all_goals first|(exact Qbr)|(exfalso;simp only [decide_eq_true_eq,decide_eq_false_iff_not,beq_iff_eq,beq_eq_false_iff_ne,ne_eq] at *;omega)
theorem QlQ (bt bg:Nat) (hb:bg<4294967296) (xs:List Nat) (n:Nat) (hl:xs.length=n) (hn:n≤1000000) (p:Int) (v:Nat) (hv:v<4294967296) (hq:gvQ bg n p v) :
  Fn Tryz.prog 153 [.agg [.int .u32 bt,.int .u32 bg],.s (.sl 0 0 n),.s (.int .i64 p),.s (.int .u32 v)] [⟨true,1,wsv xs⟩] (· =⟨.a (.agg [.int .u32 bt,.int .u32 (Qlx bg n p v)]),[(0,some ⟨true,1,wsv (Qhk xs bg n p v)⟩)],[]⟩):=by
 have q1:=QcV xs n hl (by omega) v hv
 have hsx:=Qaa xs
 have hmp:=Qbe n
 have hmn:mpg n*32≤n:=by unfold mpg;split<;>omega
 have han:=(QmM bg (2^v)).1
 have hpb:Qbk n v=true→v<mpg n:=fun h=>by unfold Qbk at h;have:=of_decide_eq_true h;omega
 unfold Qlx Qhk
 rw [if_pos hq,if_pos hq]
 obtain ⟨ZZ,hZZ⟩:∃ ZZ,∀ k,k=32→zrL xs v k=ZZ:=⟨zrL xs v 32,fun k h=>by rw [h]⟩
 rw [hZZ 32 rfl]
 obtain ⟨rfl,h2,h3⟩:=hq
 rw [h2] at q1
 have hvm:=hpb h2
 have hv32:v<32:=by omega
 have s1:=Qj4 bg v hv32
 have s2:=QgU (bg / 2^v) (Nat.lt_of_le_of_lt (Nat.div_le_self _ _) hb)
 rw [h3] at s2
 have hpw:(2:Nat)^v<4294967296:=by
  have:=Nat.pow_lt_pow_right (a:=2) (by omega) hv32
  simpa using this
 have s3:(1:Int)*2^min ((v:Nat):Int).toNat IntKind.u32.bits=((2^v:Nat):Int):=by rw [QAw 1 v (by omega)];simp
 have s4:IntKind.u32.wrap ((2^v:Nat):Int)=((2^v:Nat):Int):=Qwo _ hpw
 have s4':IntKind.u32.wrap ((1:Int)*2^min ((v:Nat):Int).toNat IntKind.u32.bits)=((2^v:Nat):Int):=by rw [s3,s4]
 have s5:=Qud bg (2^v) hb hpw
 have q0:IntKind.i64.wrap (v:Int)=v:=by rw [QbI (by omega) (by omega)]
 have q3:IntKind.i64.wrap ((v:Int)*32)=((v*32:Nat):Int):=by rw [QbI (by omega) (by omega)];omega
 clear hpb hmp h2 h3 han
 generalize bg / 2^v=bv at *
 generalize 2^v=pw at *
 generalize bg ||| pw=b2 at *
 generalize hX:wsv xs=XX at *
 refine fnW Tryz.func153 ?_
 (repeat' ((conv=>whnf);first|(intro hb;first|exact zk2 hb|(try (replace hb:=zn0 hb)))|(with_reducible first|refine zv s1 ?_|refine zv s2 ?_|refine zv s4' ?_|refine zv s3 ?_|refine zv s4 ?_|refine zv s5 ?_)|(refine Qay q1 ?_)|refine zst ?_|refine zbx ?_ ?_|refine zgx ?_ ?_|refine eqR ?_));(all_goals (try (conv=>whnf)))
 all_goals try (exfalso;simp at hb;done)
 refine Lp.inv (fun mm σ=>∃ j:Nat,mm+j=32∧σ=QvX n v j (wsv (zrL xs v j)) bt b2) ?_ ?_
 ·refine ⟨32,QvX n v 0 XX bt b2,?_,0,by omega,by rw [← hX];rfl⟩
  (exact zwL [(0,some 0),(1,some _),(2,some _)])
 clear s1 s2 s3 s4 s4' s5 q1
 rintro mm σ ⟨j,hmj,rfl⟩
 unfold QvX
 have hZ:=Qaa (zrL xs v (j+1))
 have hZ0:=Qaa (zrL xs v j)
 by_cases hj:j<32
 ·have hset:QaF (wsv (zrL xs v j)) (v*32+j) [QpS (Value.int IntKind.u32 0)]=wsv (zrL xs v (j+1)) :=
    Qbv (zrL xs v j) (v*32+j) 0 (by rw [QfF];omega)
  have hlz:(wsv (zrL xs v j)).length=n:=by simp [QfF,hl]
  have q2:IntKind.i64.wrap ((j:Int)+1)=((j+1:Nat):Int):=by rw [QbI (by omega) (by omega)];omega
  have q4:IntKind.i64.wrap (((v*32:Nat):Int)+(j:Int))=((v*32+j:Nat):Int):=by rw [QbI (by omega) (by omega)];omega
  have hx1:(0:Int)≤((v*32+j:Nat):Int)∧((v*32+j:Nat):Int)<(n:Int):=by omega
  generalize wsv (zrL xs v j)=Z0 at *
  generalize hZ1:wsv (zrL xs v (j+1))=Z1 at *
  generalize v*32+j=ix at *
  generalize v*32=v32 at *
  have hsd:ix+1≤Z0.length:=by omega
  (repeat' ((conv=>whnf);first|(intro hb;first|exact zk2 hb|(try (replace hb:=zn0 hb)))|(with_reducible first|refine zv q0 ?_|refine zv q2 ?_|refine zv q3 ?_|refine zv q4 ?_)|(apply Sd.mk; · first|with_reducible exact hx1|exact ⟨rfl,rfl,rfl,hsd⟩)|((with_reducible apply Vl.mk (α:=List SV)); · with_reducible exact hset)|refine zst ?_|refine zbx ?_ ?_|refine zgx ?_ ?_|refine eqR ?_));(all_goals (try (conv=>whnf)))
  all_goals first
   | (
     refine ⟨mm-1,QvX n v (j+1) Z1 bt b2,by omega,?_,j+1,by omega,by unfold QvX;rw [hZ1]⟩
     (exact zwL [(0,some 0),(1,some 1),(2,some 2)]))
  
 ·obtain rfl:j=32:=by omega
  clear hZ
  rw [hZZ 32 rfl] at hZ0 ⊢
  clear hZZ
  generalize wsv ZZ=Z0 at *
  (repeat' ((conv=>whnf);first|(intro hb;first|exact zk2 hb|(try (replace hb:=zn0 hb)))|refine zst ?_|refine zbx ?_ ?_|refine zgx ?_ ?_|refine eqR ?_));(all_goals (try (conv=>whnf)))
  all_goals first|(exfalso;simp at hb;done)|(exact Qbr)
theorem Qdm {mm:List Em} {k n0 i n es:Nat} {cells cells':List SV} (h:cells'=cells.map (Qdr mm k n0)) (ho:QtV n i 0 mm=true):Qdg mm k n0 i ⟨n,0⟩ ⟨true,es,cells⟩ ⟨true,es,cells'⟩:=by
 subst h
 exact ⟨rfl,fun q s hs=>by simp only [] at hs ⊢;rw [Nat.zero_add,List.getElem?_map,hs];rfl,by simp,fun _=>⟨rfl,rfl,by simp,fun j f hj hne=>Ql5 ho j f hj (by omega)⟩⟩
theorem Qis (bt bg:Nat) (hb:bg<4294967296) (xs:List Nat) (n:Nat) (hl:xs.length=n) (hn:n≤1000000) (p:Int) (v:Nat) (hv:v<4294967296) :
  Fn Tryz.prog 153 [.agg [.int .u32 bt,.int .u32 bg],.s (.sl 0 0 n),.s (.int .i64 p),.s (.int .u32 v)] [⟨true,1,wsv xs⟩] (· =⟨.a (.agg [.int .u32 bt,.int .u32 (Qlx bg n p v)]),[(0,some ⟨true,1,wsv (Qhk xs bg n p v)⟩)],[]⟩):=by
 by_cases hq:gvQ bg n p v
 ·exact QlQ bt bg hb xs n hl hn p v hv hq
 ·exact Qnf bt bg hb xs n hl hn p v hv hq
theorem Qsg (bg n:Nat) (hb:bg<4294967296) (p:Int) (v:Nat):Qlx bg n p v<4294967296:=by
 unfold Qlx
 split
 ·rename_i h
  have hv:v<32:=by
   have:=h.2.1
   have hm:=Qbe n
   unfold Qbk at this
   have:=of_decide_eq_true this
   omega
  have hpw:(2:Nat)^v<2^32:=Nat.pow_lt_pow_right (a:=2) (by omega) hv
  exact Nat.or_lt_two_pow (n:=32) hb hpw
 ·split
  ·exact (QmM bg (2^v)).2
  ·exact hb
theorem Qd4 (xs:List Nat) (bg n:Nat) (p:Int) (v:Nat):(Qhk xs bg n p v).length=xs.length:=by
 unfold Qhk;split
 ·exact QfF xs v 32
 ·rfl
theorem QrV (xs:List Nat) (bg n:Nat) (p:Int) (v:Nat) (h:∀ y∈xs,y<4294967296):∀ y∈Qhk xs bg n p v,y<4294967296:=by
 unfold Qhk;split
 ·exact QpY xs v h 32
 ·exact h
theorem Qll (xs:List Nat) (n f:Nat):(pgV xs n f).size≤128:=by
 unfold pgV
 split
 ·rw [strOfNums_size,QfH];omega
 ·exact Nat.zero_le _
theorem QkF (d:Dk) (hd:d.ok) (xs:List Nat) (n:Nat) (p:Int) (v:Nat) (hv:v<4294967296) (c:Nat):(QbQ d xs n p v c).1.ok:=by
 obtain ⟨e1,e2,e3,e4,e5,e6,e7,e8⟩:=hd
 have w:∀ i:Int,0≤i→i<4294967296→(Lit.int .i64 i).wf=true:=fun i h h'=>by simp [Lit.wf];exact ⟨by show (-9223372036854775808:Int)≤i;omega,by omega⟩
 unfold QbQ
 split
 ·exact ⟨e1,hv,e3,e4,e5,e6,e7,e8⟩
 split
 ·exact ⟨e1,e2,hv,e4,e5,e6,e7,e8⟩
 split
 ·exact ⟨e1,e2,e3,e4,e5,e6,e7,e8⟩
 split
 ·exact ⟨e1,e2,e3,e4,e5,e6,w 0 (by omega) (by omega),e8⟩
 split
 ·split
  ·exact ⟨e1,e2,e3,e4,e5,e6,w 3 (by omega) (by omega),e8⟩
  split
  ·exact ⟨e1,e2,e3,e4,e5,e6,w 3 (by omega) (by omega),e8⟩
  ·refine ⟨e1,e2,e3,e2,e3,?_,w 1 (by omega) (by omega),w v (by omega) (by omega)⟩
   show (if (v:Int)=2 then pgV xs n d.fr else ⟨#[]⟩:ByteArray).size≤1000000
   split
   ·have:=Qll xs n d.fr;omega
   ·exact Nat.zero_le _
 ·exact ⟨e1,e2,e3,e4,e5,e6,e7,e8⟩
def Qh1 (O:Option (List SV)):Prop:=∀ l,O=some l→l.length=4∧Qau l=true∧Qat l=true
theorem QdC (d:Dk) (xs:List Nat) (n:Nat) (p:Int) (v c:Nat):Qh1 (QbQ d xs n p v c).2:=by
 unfold QbQ Qh1
 intro l h
 split at h
 ·cases h
 split at h
 ·cases h
 split at h
 ·cases h
 split at h
 ·cases h
 split at h
 ·split at h
  ·cases h
  split at h
  ·cases h
  ·injection h with h
   subst h
   unfold Qq2
   split<;>(try split)<;>(try split)<;>exact ⟨rfl,rfl,rfl⟩
 ·cases h
theorem Qk7 (d:Nk) (hd:d.ok) (xs:List Nat) (n:Nat) (p:Int) (v:Nat) (hv:v<4294967296) (c:Nat):(QbU d xs n p v c).1.ok:=by
 obtain ⟨e1,e2,e3,e4⟩:=hd
 unfold QbU
 split
 ·exact ⟨hv,e2,e3,e4⟩
 split
 ·exact ⟨e1,hv,e3,e4⟩
 split
 ·exact ⟨e1,e2,e3,e4⟩
 split
 ·exact ⟨e1,e2,e3,by show (0:Nat)<_;omega⟩
 split
 ·exact ⟨e1,e2,e3,e4⟩
 split
 ·exact ⟨e1,e2,e1,e4⟩
 ·exact ⟨e1,e2,e3,e4⟩
theorem QdF (d:Nk) (xs:List Nat) (n:Nat) (p:Int) (v c:Nat):Qh1 (QbU d xs n p v c).2:=by
 unfold QbU Qh1
 intro l h
 split at h
 ·cases h
 split at h
 ·cases h
 split at h
 ·cases h
 split at h
 ·cases h
 split at h
 ·injection h with h
  subst h
  exact ⟨rfl,rfl,rfl⟩
 split at h
 ·cases h
 ·cases h
theorem Qua (M:Mc) (hM:M.ok) (p:Int):(inM M p).ok:=by
 unfold inM
 split
 ·obtain ⟨h1,h2,h3,h4,h5,h6,h7,h8,h9,g1,g2,g3,g4,g5⟩:=hM
  refine ⟨h1,h2,h3,h4,h5,h6,h7,h8,h9,g1,g2,g3,g4,?_⟩
  show (QqC M.ks p).size≤1000000
  unfold QqC
  split
  ·split
   ·exact g5
   ·rw [ByteArray.size_extract];omega
  ·exact g5
 ·exact hM
def Qbj (M:Mc) (p:Int) (v:Nat):Mc × Option (List SV) :=
 if p=0 then (M,some [.int .i64 1,.int .u64 M.ct,.int .u32 0,.str (strOfNums [v%256])])
 else if p≤2 then (M,none)
 else if p=3 then ({ M with ta:=decide (¬ (v:Int)=0),td:=v,tf:=false },none)
 else if p≤6 then ({ M with d:=(QbQ M.d M.m M.m.length p v M.ct).1 },(QbQ M.d M.m M.m.length p v M.ct).2)
 else if p≤9 then ({ M with n:=(QbU M.n M.m M.m.length p v M.ct).1 },(QbU M.n M.m M.m.length p v M.ct).2)
 else ({ M with bg:=Qlx M.bg M.m.length p v,m:=Qhk M.m M.bg M.m.length p v },none)
theorem QfL (M:Mc) (p:Int) (v:Nat):Qh1 (Qbj M p v).2:=by
 unfold Qbj
 split
 ·intro l h;injection h with h;subst h;exact ⟨rfl,rfl,rfl⟩
 split
 ·intro l h;cases h
 split
 ·intro l h;cases h
 split
 ·exact QdC _ _ _ _ _ _
 split
 ·exact QdF _ _ _ _ _ _
 ·intro l h;cases h
theorem QrT (M:Mc) (hM:M.ok) (p:Int) (v:Nat) (hv:v<4294967296):(Qbj M p v).1.ok:=by
 have k:=hM
 obtain ⟨h1,h2,h3,h4,h5,h6,h7,h8,h9,g1,g2,g3,g4,g5⟩:=hM
 unfold Qbj
 split
 ·exact k
 split
 ·exact k
 split
 ·exact ⟨h1,h2,h3,h4,h5,h6,h7,h8,h9,hv,g2,g3,g4,g5⟩
 split
 ·exact ⟨h1,h2,h3,h4,h5,h6,h7,QkF _ h8 _ _ _ _ hv _,h9,g1,g2,g3,g4,g5⟩
 split
 ·exact ⟨h1,h2,h3,h4,h5,h6,h7,h8,Qk7 _ h9 _ _ _ _ hv _,g1,g2,g3,g4,g5⟩
 ·refine ⟨h1,h2,h3,h4,h5,QrV _ _ _ _ _ h6,?_,h8,h9,g1,g2,Qsg _ _ g3 _ _,g4,g5⟩
  show (Qhk M.m M.bg M.m.length p v).length≤1000000
  rw [Qd4];exact h7
theorem QfC (M:Mc) (p:Int) (v:Nat):(Qbj M p v).1.m.length=M.m.length:=by
 unfold Qbj
 split
 ·rfl
 split
 ·rfl
 split
 ·rfl
 split
 ·rfl
 split
 ·rfl
 ·exact Qd4 _ _ _ _ _
end Go.Proofs.YtjgikeckbeeehaaGreat
