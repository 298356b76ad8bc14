import Derived.Test.YtjgikeckbeeehaaGreatP16
set_option linter.unusedSimpArgs false
set_option linter.unusedVariables false
set_option maxHeartbeats 100000000
set_option maxRecDepth 100000
namespace Go.Proofs.YtjgikeckbeeehaaGreat
open Go Go.RowKit
def byt (s:ByteArray) (j:Nat):Nat:=match s[j]? with|some b=>b.toNat|none=>0
theorem Quc (s:ByteArray) (j:Nat):byt s j<256:=by
 unfold byt
 split
 ·exact UInt8.toNat_lt _
 ·decide
def QhY (xs:List Nat) (f:Nat) (s:ByteArray):Nat→List Nat
 | 0=>xs
 | j+1=>Qio (QhY xs f s j) (f*128+j) (byt s j)
theorem Qea (xs:List Nat) (f:Nat) (s:ByteArray):∀ j,(QhY xs f s j).length=xs.length
 | 0=>rfl
 | j+1=>by unfold QhY Qio;rw [List.length_set,Qea xs f s j]
theorem Qia (xs:List Nat) (f:Nat) (s:ByteArray) (h:∀ y∈xs,y<4294967296):∀ j,∀ y∈QhY xs f s j,y<4294967296
 | 0=>h
 | j+1=>by unfold QhY Qio;exact Qbw (Qia xs f s h j) _ _ (Qqf _ _ _)
def Qr1 (n f j:Nat) (s:ByteArray) (X:List SV):St :=
 ⟨[(0,.a (.s (.sl 0 0 n))),(1,.a (.s (.int .i64 f))),(2,.a (.s (.str s))),(6,.a (.s (.int .i64 j)))],[(0,some ⟨true,1,X⟩)],[0]⟩
theorem Qgg (xs:List Nat) (n:Nat) (hl:xs.length=n) (hn:n≤1000000) (f:Nat) (hf:f<mpg n) (s:ByteArray) (hs:s.size≤1000000) :
  Fn Tryz.prog 143 [.s (.sl 0 0 n),.s (.int .i64 f),.s (.str s)] [⟨true,1,wsv xs⟩] (· =⟨.tup [],[(0,some ⟨true,1,wsv (QhY xs f s (min s.size 128))⟩)],[]⟩):=by
 have hmp:=Qbe n
 obtain ⟨L,hL⟩:∃ L,L=min s.size 128:=⟨_,rfl⟩
 obtain ⟨G,hG⟩:∃ G:Nat→List Nat,G=QhY xs f s:=⟨_,rfl⟩
 rw [← hL,← hG]
 have hG0:wsv xs=wsv (G 0):=by rw [hG];rfl
 rw [hG0]
 have hGl:∀ j,(G j).length=n:=fun j=>by rw [hG,Qea,hl]
 have hGs:∀ j,G (j+1)=Qio (G j) (f*128+j) (byt s j):=fun j=>by rw [hG];rfl
 have hsG:∀ j,Qau (wsv (G j))=true:=fun j=>Qaa _
 have h0:=hsG 0
 have hd:∀ a,a<f*128+128→ld1 n a=true:=fun a h=>by unfold ld1;exact decide_eq_true (by omega)
 clear hG hG0 hl
 generalize h00:wsv (G 0)=XX at *
 refine fnW Tryz.func143 ?_
 (repeat' ((conv=>whnf);first|(intro hb;first|exact zk3 hb|(try (replace hb:=zn0 hb)))|refine zst ?_|refine zbx ?_ ?_|refine zgx ?_ ?_|refine eqR ?_));(all_goals (try (conv=>whnf)))
 refine Lp.inv (fun mm σ=>∃ j:Nat,mm+j=L∧σ=Qr1 n f j s (wsv (G j))) ?_ ?_
 ·refine ⟨L,Qr1 n f 0 s XX,?_,0,by omega,by rw [← h00]⟩
  (exact zwL [(0,some 0)])
 rintro mm σ ⟨j,hmj,rfl⟩
 have h1:=hsG j
 have h2:=hsG (j+1)
 by_cases hj:j<L
 ·have hn1:s[((j:Nat):Int).toNat]?=some (s[j]'(by omega)):=by rw [Int.toNat_natCast];exact getElem?_pos s j (by omega)
  have hby:(s[j]'(by omega)).toNat=byt s j:=by unfold byt;rw [getElem?_pos s j (by omega)]
  have hbl:=Quc s j
  have qp:=Qi4 (G j) n (f*128+j) (byt s j) (by omega) (hGl j) (hd _ (by omega))
  rw [← hGs j] at qp
  have q2:IntKind.i64.wrap ((j:Int)+1)=((j+1:Nat):Int):=by rw [QbI (by omega) (by omega)];omega
  have q3:IntKind.i64.wrap ((f:Int)*128)=((f*128:Nat):Int):=by rw [QbI (by omega) (by omega)];omega
  have q4:IntKind.i64.wrap (((f*128:Nat):Int)+(j:Int))=((f*128+j:Nat):Int):=by rw [QbI (by omega) (by omega)];omega
  have q5:IntKind.u32.wrap ((f*128+j:Nat):Int)=((f*128+j:Nat):Int):=by rw [Qcf (by omega) (by omega)]
  have q6:IntKind.u32.wrap ((s[j]'(by omega)).toNat:Int)=((byt s j:Nat):Int):=by rw [hby,Qcf (by omega) (by omega)]
  generalize s[j]'(by omega)=bj at *
  generalize byt s j=bv at *
  generalize h22:wsv (G (j+1))=X2 at *
  generalize wsv (G j)=X1 at *
  generalize f*128+j=fj at *
  generalize f*128=f1 at *
  unfold Qr1
  clear hd hGs hsG hGl
  (repeat' ((conv=>whnf);first|(intro hb;first|exact zk3 hb|(try (replace hb:=zn0 hb)))|(with_reducible first|refine zv q2 ?_|refine zv q3 ?_|refine zv q4 ?_|refine zv q5 ?_|refine zv q6 ?_)|((with_reducible apply Ge.mk (α:=UInt8)); · exact hn1)|(refine QbY qp ?_)|refine zst ?_|refine zbx ?_ ?_|refine zgx ?_ ?_|refine eqR ?_));(all_goals (try (conv=>whnf)))
  all_goals first
   | (exfalso;omega)
   | (
     refine ⟨mm-1,Qr1 n f (j+1) s X2,by omega,?_,j+1,by omega,by unfold Qr1;rw [h22]⟩
     unfold Qr1
     (exact zwL [(0,some 0)]))
  
 ·obtain rfl:j=L:=by omega
  generalize wsv (G j)=X1 at *
  unfold Qr1
  clear hd hGs hsG hGl h2
  (repeat' ((conv=>whnf);first|(intro hb;first|exact zk3 hb|(try (replace hb:=zn0 hb)))|refine zst ?_|refine zbx ?_ ?_|refine zgx ?_ ?_|refine eqR ?_));(all_goals (try (conv=>whnf)))
  all_goals first|(exfalso;omega)|(exfalso;simp at hb;omega)|(exact Qbr)
def Dk.fin (d:Dk) (s:Int):Dk:=⟨d.bs,d.bl,d.fr,s,0,0,0,⟨#[]⟩⟩
def QfX (d:Dk) (xs:List Nat) (n:Nat) (k:Int) (N:Nat) (S:ByteArray):Dk × List Nat × Bool :=
 if d.st≠1∨k≠4∨1<N then (d,xs,false)
 else if N=1∧d.cmd=1 then (if S.size=128∧Qbk n d.of_=true then (d.fin 2,QhY xs d.of_ S 128,true) else (d,xs,false))
 else if S.size=0 then (d.fin (if N=1 then 2 else 3),xs,true)
 else (d,xs,false)
theorem Qe6 (d:Dk) (hd:d.ok) (xs:List Nat) (n:Nat) (hl:xs.length=n) (hn:n≤1000000) (k:Int) (N:Nat) (hN:N<4294967296) (S:ByteArray) (hS:S.size≤1000000) :
  Fn Tryz.prog 130 [.agg d.C,.s (.sl 0 0 n),.agg [.int .i64 k,.int .u32 N,.str S]] [⟨true,1,wsv xs⟩]
  (· =⟨.tup [.agg (QfX d xs n k N S).1.C,.s (.bool (QfX d xs n k N S).2.2)],[(0,some ⟨true,1,wsv (QfX d xs n k N S).2.1⟩)],[]⟩):=by
 obtain ⟨_,_,_,_,e5,_,_,_⟩:=hd
 have q1:=QcV xs n hl (by omega) d.of_ e5
 have q2:=fun hp=>Qgg xs n hl hn d.of_ hp S hS
 have hmp:=Qbe n
 have hpb:Qbk n d.of_=true→d.of_<mpg n:=fun h=>by unfold Qbk at h;have:=of_decide_eq_true h;omega
 have hsx:=Qaa xs
 have hsf:=Qaa (QhY xs d.of_ S 128)
 obtain ⟨D,hD⟩:∃ D,QfX d xs n k N S=D:=⟨_,rfl⟩
 rw [hD]
 unfold QfX Dk.fin at hD
 have cf:IntKind.i64.wrap (d.of_:Int)=d.of_:=by rw [QbI (by omega) (by omega)]
 generalize QhY xs d.of_ S=FL at *
 generalize hFF:FL 128=FF at *
 obtain ⟨_,_,_,st,cmd,_,of_,_⟩:=d
 dsimp only [Dk.C] at *
 by_cases h1:st≠1∨k≠4∨1<N
 ·rw [if_pos h1] at hD
  subst hD
  clear q2 hpb
  generalize wsv xs=XX at *
  generalize wsv FF=F2 at *
  generalize Qbk n of_=pb at *
  dsimp only [Dk.C]
  by_cases h1a:st=1
  ·subst h1a
   by_cases h1b:k=4
   ·subst h1b
    refine fnW Tryz.func130 ?_
    (repeat' ((conv=>whnf);first|(intro hb;first|exact zk3 hb|(try (replace hb:=zn0 hb)))|refine zst ?_|refine zbx ?_ ?_|refine zgx ?_ ?_|refine eqR ?_));(all_goals (try (conv=>whnf)))
    all_goals first|(exfalso;omega)|(exfalso;simp at hb;done)|(exfalso;simp only [decide_eq_true_eq,decide_eq_false_iff_not,beq_iff_eq,bne_iff_ne,beq_eq_false_iff_ne,bne_eq_false_iff_eq,ne_eq,Bool.not_eq_true',Bool.not_eq_false',Classical.not_not] at *;omega)|(exact Qbr)
   ·skip
    refine fnW Tryz.func130 ?_
    (repeat' ((conv=>whnf);first|(intro hb;first|exact zk3 hb|(try (replace hb:=zn0 hb)))|refine zst ?_|refine zbx ?_ ?_|refine zgx ?_ ?_|refine eqR ?_));(all_goals (try (conv=>whnf)))
    all_goals first|(exfalso;omega)|(exfalso;simp at hb;done)|(exfalso;simp only [decide_eq_true_eq,decide_eq_false_iff_not,beq_iff_eq,bne_iff_ne,beq_eq_false_iff_ne,bne_eq_false_iff_eq,ne_eq,Bool.not_eq_true',Bool.not_eq_false',Classical.not_not] at *;omega)|(exact Qbr)
  ·skip
   refine fnW Tryz.func130 ?_
   (repeat' ((conv=>whnf);first|(intro hb;first|exact zk3 hb|(try (replace hb:=zn0 hb)))|refine zst ?_|refine zbx ?_ ?_|refine zgx ?_ ?_|refine eqR ?_));(all_goals (try (conv=>whnf)))
   all_goals first|(exfalso;omega)|(exfalso;simp at hb;done)|(exfalso;simp only [decide_eq_true_eq,decide_eq_false_iff_not,beq_iff_eq,bne_iff_ne,beq_eq_false_iff_ne,bne_eq_false_iff_eq,ne_eq,Bool.not_eq_true',Bool.not_eq_false',Classical.not_not] at *;omega)|(exact Qbr)
 rw [if_neg h1] at hD
 obtain rfl:st=1:=by omega
 obtain rfl:k=4:=by omega
 by_cases h2:N=1∧cmd=1
 ·rw [if_pos h2] at hD
  obtain ⟨rfl,rfl⟩:=h2
  by_cases h3:S.size=128∧Qbk n of_=true
  ·rw [if_pos h3] at hD
   subst hD
   obtain ⟨h3a,h3b⟩:=h3
   have q3:=q2 (hpb h3b)
   rw [show min S.size 128=128 by omega,hFF] at q3
   rw [h3b] at q1
   clear q2 hpb hFF
   generalize wsv xs=XX at *
   generalize wsv FF=F2 at *
   dsimp only [Dk.C]
   refine fnW Tryz.func130 ?_
   (repeat' ((conv=>whnf);first|(intro hb;first|exact zk3 hb|(try (replace hb:=zn0 hb)))|(with_reducible refine zv cf ?_)|(refine Qay q1 ?_)|(refine QbY q3 ?_)|refine zst ?_|refine zbx ?_ ?_|refine zgx ?_ ?_|refine eqR ?_));(all_goals (try (conv=>whnf)))
   all_goals first|(exfalso;omega)|(exfalso;simp at hb;done)|(exfalso;simp only [decide_eq_true_eq,decide_eq_false_iff_not,beq_iff_eq,bne_iff_ne,beq_eq_false_iff_ne,bne_eq_false_iff_eq,ne_eq,Bool.not_eq_true',Bool.not_eq_false',Classical.not_not] at *;omega)|(exact Qbr)
  ·rw [if_neg h3] at hD
   subst hD
   clear q2 hpb
   by_cases h3a:S.size=128
   ·obtain h3b:Qbk n of_=false:=by cases h:Qbk n of_ with
     | true=>exact absurd ⟨h3a,h⟩ h3
     | false=>rfl
    rw [h3b] at q1
    generalize wsv xs=XX at *
    dsimp only [Dk.C]
    refine fnW Tryz.func130 ?_
    (repeat' ((conv=>whnf);first|(intro hb;first|exact zk3 hb|(try (replace hb:=zn0 hb)))|(refine Qay q1 ?_)|refine zst ?_|refine zbx ?_ ?_|refine zgx ?_ ?_|refine eqR ?_));(all_goals (try (conv=>whnf)))
    all_goals first|(exfalso;omega)|(exfalso;simp at hb;done)|(exfalso;simp only [decide_eq_true_eq,decide_eq_false_iff_not,beq_iff_eq,bne_iff_ne,beq_eq_false_iff_ne,bne_eq_false_iff_eq,ne_eq,Bool.not_eq_true',Bool.not_eq_false',Classical.not_not] at *;omega)|(exact Qbr)
   ·generalize wsv xs=XX at *
    generalize Qbk n of_=pb at *
    dsimp only [Dk.C]
    refine fnW Tryz.func130 ?_
    (repeat' ((conv=>whnf);first|(intro hb;first|exact zk3 hb|(try (replace hb:=zn0 hb)))|(refine Qay q1 ?_)|refine zst ?_|refine zbx ?_ ?_|refine zgx ?_ ?_|refine eqR ?_));(all_goals (try (conv=>whnf)))
    all_goals first|(exfalso;omega)|(exfalso;simp at hb;done)|(exfalso;simp only [decide_eq_true_eq,decide_eq_false_iff_not,beq_iff_eq,bne_iff_ne,beq_eq_false_iff_ne,bne_eq_false_iff_eq,ne_eq,Bool.not_eq_true',Bool.not_eq_false',Classical.not_not] at *;omega)|(exact Qbr)
 rw [if_neg h2] at hD
 clear q2 hpb
 by_cases h4:S.size=0
 ·rw [if_pos h4] at hD
  subst hD
  generalize wsv xs=XX at *
  dsimp only [Dk.C]
  by_cases h5:N=1
  ·subst h5
   rw [if_pos rfl]
   refine fnW Tryz.func130 ?_
   (repeat' ((conv=>whnf);first|(intro hb;first|exact zk3 hb|(try (replace hb:=zn0 hb)))|(refine Qay q1 ?_)|refine zst ?_|refine zbx ?_ ?_|refine zgx ?_ ?_|refine eqR ?_));(all_goals (try (conv=>whnf)))
   all_goals first|(exfalso;omega)|(exfalso;simp at hb;done)|(exfalso;simp only [decide_eq_true_eq,decide_eq_false_iff_not,beq_iff_eq,bne_iff_ne,beq_eq_false_iff_ne,bne_eq_false_iff_eq,ne_eq,Bool.not_eq_true',Bool.not_eq_false',Classical.not_not] at *;omega)|(exact Qbr)
  ·rw [if_neg h5]
   refine fnW Tryz.func130 ?_
   (repeat' ((conv=>whnf);first|(intro hb;first|exact zk3 hb|(try (replace hb:=zn0 hb)))|(refine Qay q1 ?_)|refine zst ?_|refine zbx ?_ ?_|refine zgx ?_ ?_|refine eqR ?_));(all_goals (try (conv=>whnf)))
   all_goals first|(exfalso;omega)|(exfalso;simp at hb;done)|(exfalso;simp only [decide_eq_true_eq,decide_eq_false_iff_not,beq_iff_eq,bne_iff_ne,beq_eq_false_iff_ne,bne_eq_false_iff_eq,ne_eq,Bool.not_eq_true',Bool.not_eq_false',Classical.not_not] at *;omega)|(exact Qbr)
 ·rw [if_neg h4] at hD
  subst hD
  generalize wsv xs=XX at *
  dsimp only [Dk.C]
  refine fnW Tryz.func130 ?_
  (repeat' ((conv=>whnf);first|(intro hb;first|exact zk3 hb|(try (replace hb:=zn0 hb)))|(refine Qay q1 ?_)|refine zst ?_|refine zbx ?_ ?_|refine zgx ?_ ?_|refine eqR ?_));(all_goals (try (conv=>whnf)))
  all_goals first|(exfalso;omega)|(exfalso;simp at hb;done)|(exfalso;simp only [decide_eq_true_eq,decide_eq_false_iff_not,beq_iff_eq,bne_iff_ne,beq_eq_false_iff_ne,bne_eq_false_iff_eq,ne_eq,Bool.not_eq_true',Bool.not_eq_false',Classical.not_not] at *;omega)|(exact Qbr)
def Qf4 (d:Nk) (xs:List Nat) (n:Nat) (S:ByteArray):Nk × List Nat × Bool :=
 if d.po=true∧1≤S.size∧S.size≤128∧Qbk n d.bu=true then (⟨d.fr,d.ln,false,0,true,S.size⟩,QhY xs d.bu S S.size,true) else (d,xs,false)
theorem Qfj (d:Nk) (hd:d.ok) (xs:List Nat) (n:Nat) (hl:xs.length=n) (hn:n≤1000000) (S:ByteArray) (hS:S.size≤1000000) :
  Fn Tryz.prog 131 [.agg d.C,.s (.sl 0 0 n),.s (.str S)] [⟨true,1,wsv xs⟩]
  (· =⟨.tup [.agg (Qf4 d xs n S).1.C,.s (.bool (Qf4 d xs n S).2.2)],[(0,some ⟨true,1,wsv (Qf4 d xs n S).2.1⟩)],[]⟩):=by
 obtain ⟨e1,e2,e3,e4⟩:=hd
 have q1:=QcV xs n hl (by omega) d.bu e3
 have q2:=fun hp=>Qgg xs n hl hn d.bu hp S hS
 have hmp:=Qbe n
 have hpb:Qbk n d.bu=true→d.bu<mpg n:=fun h=>by unfold Qbk at h;have:=of_decide_eq_true h;omega
 have hsx:=Qaa xs
 have hsf:=Qaa (QhY xs d.bu S S.size)
 obtain ⟨D,hD⟩:∃ D,Qf4 d xs n S=D:=⟨_,rfl⟩
 rw [hD]
 unfold Qf4 at hD
 have cf:IntKind.i64.wrap (d.bu:Int)=d.bu:=by rw [QbI (by omega) (by omega)]
 have cs:IntKind.u32.wrap (S.size:Int)=S.size:=by rw [Qcf (by omega) (by omega)]
 generalize QhY xs d.bu S=FL at *
 generalize hFF:FL S.size=FF at *
 obtain ⟨_,_,po,bu,_,_⟩:=d
 dsimp only [Nk.C] at *
 by_cases h1:po=true∧1≤S.size∧S.size≤128∧Qbk n bu=true
 ·rw [if_pos h1] at hD
  subst hD
  obtain ⟨rfl,h2,h3,h4⟩:=h1
  have q3:=q2 (hpb h4)
  rw [show min S.size 128=S.size by omega,hFF] at q3
  rw [h4] at q1
  clear q2 hpb hFF
  generalize wsv xs=XX at *
  generalize wsv FF=F2 at *
  dsimp only [Nk.C]
  refine fnW Tryz.func131 ?_
  (repeat' ((conv=>whnf);first|(intro hb;first|exact zk3 hb|(try (replace hb:=zn0 hb)))|(with_reducible first|refine zv cf ?_|refine zv cs ?_)|(refine Qay q1 ?_)|(refine QbY q3 ?_)|refine zst ?_|refine zbx ?_ ?_|refine zgx ?_ ?_|refine eqR ?_));(all_goals (try (conv=>whnf)))
  all_goals first|(exfalso;omega)|(exfalso;simp at hb;done)|(exfalso;simp only [decide_eq_true_eq,decide_eq_false_iff_not,beq_iff_eq,bne_iff_ne,beq_eq_false_iff_ne,bne_eq_false_iff_eq,ne_eq,Bool.not_eq_true',Bool.not_eq_false',Classical.not_not] at *;omega)|(exact Qbr)
 rw [if_neg h1] at hD
 subst hD
 clear q2 hpb
 cases po
 ·generalize wsv xs=XX at *
  generalize Qbk n bu=pb at *
  dsimp only [Nk.C]
  refine fnW Tryz.func131 ?_
  (repeat' ((conv=>whnf);first|(intro hb;first|exact zk3 hb|(try (replace hb:=zn0 hb)))|(refine Qay q1 ?_)|refine zst ?_|refine zbx ?_ ?_|refine zgx ?_ ?_|refine eqR ?_));(all_goals (try (conv=>whnf)))
  all_goals first|(exfalso;omega)|(exfalso;simp at hb;done)|(exfalso;simp only [decide_eq_true_eq,decide_eq_false_iff_not,beq_iff_eq,bne_iff_ne,beq_eq_false_iff_ne,bne_eq_false_iff_eq,ne_eq,Bool.not_eq_true',Bool.not_eq_false',Classical.not_not] at *;omega)|(exact Qbr)
 by_cases h2:1≤S.size∧S.size≤128
 ·have h3:Qbk n bu=false:=by cases h:Qbk n bu with
   | true=>exact absurd ⟨rfl,h2.1,h2.2,h⟩ h1
   | false=>rfl
  rw [h3] at q1
  generalize wsv xs=XX at *
  dsimp only [Nk.C]
  refine fnW Tryz.func131 ?_
  (repeat' ((conv=>whnf);first|(intro hb;first|exact zk3 hb|(try (replace hb:=zn0 hb)))|(refine Qay q1 ?_)|refine zst ?_|refine zbx ?_ ?_|refine zgx ?_ ?_|refine eqR ?_));(all_goals (try (conv=>whnf)))
  all_goals first|(exfalso;omega)|(exfalso;simp at hb;done)|(exfalso;simp only [decide_eq_true_eq,decide_eq_false_iff_not,beq_iff_eq,bne_iff_ne,beq_eq_false_iff_ne,bne_eq_false_iff_eq,ne_eq,Bool.not_eq_true',Bool.not_eq_false',Classical.not_not] at *;omega)|(exact Qbr)
 ·generalize wsv xs=XX at *
  generalize Qbk n bu=pb at *
  dsimp only [Nk.C]
  clear h1
  refine fnW Tryz.func131 ?_
  (repeat' ((conv=>whnf);first|(intro hb;first|exact zk3 hb|(try (replace hb:=zn0 hb)))|(refine Qay q1 ?_)|refine zst ?_|refine zbx ?_ ?_|refine zgx ?_ ?_|refine eqR ?_));(all_goals (try (conv=>whnf)))
  all_goals first|(exfalso;omega)|(exfalso;simp at hb;done)|(exfalso;simp only [decide_eq_true_eq,decide_eq_false_iff_not,beq_iff_eq,bne_iff_ne,beq_eq_false_iff_ne,bne_eq_false_iff_eq,ne_eq,Bool.not_eq_true',Bool.not_eq_false',Classical.not_not] at *;omega)|(exact Qbr)
theorem Qei (d:Dk) (xs:List Nat) (n:Nat) (k:Int) (N:Nat) (S:ByteArray):(QfX d xs n k N S).2.1.length=xs.length:=by
 have h:=Qea xs d.of_ S 128
 unfold QfX
 generalize QhY xs d.of_ S 128=F at *
 split
 ·rfl
 split
 ·split
  ·exact h
  ·rfl
 split<;>rfl
theorem Qd5 (d:Nk) (xs:List Nat) (n:Nat) (S:ByteArray):(Qf4 d xs n S).2.1.length=xs.length:=by
 unfold Qf4
 split
 ·exact Qea _ _ _ _
 ·rfl
theorem Qs5 (d:Dk) (xs:List Nat) (n:Nat) (k:Int) (N:Nat) (S:ByteArray) (h:∀ y∈xs,y<4294967296):∀ y∈(QfX d xs n k N S).2.1,y<4294967296:=by
 have g:=Qia xs d.of_ S h 128
 unfold QfX
 generalize QhY xs d.of_ S 128=F at *
 split
 ·exact h
 split
 ·split
  ·exact g
  ·exact h
 split<;>exact h
theorem QsP (d:Nk) (xs:List Nat) (n:Nat) (S:ByteArray) (h:∀ y∈xs,y<4294967296):∀ y∈(Qf4 d xs n S).2.1,y<4294967296:=by
 unfold Qf4
 split
 ·exact Qia _ _ _ h _
 ·exact h
theorem Qru (d:Dk) (hd:d.ok) (xs:List Nat) (n:Nat) (k:Int) (N:Nat) (S:ByteArray):(QfX d xs n k N S).1.ok:=by
 have q:=hd
 obtain ⟨e1,e2,e3,_,_,_,_,_⟩:=hd
 have w:∀ i:Int,0≤i→i<4294967296→(Lit.int .i64 i).wf=true:=fun i h h'=>by simp [Lit.wf];exact ⟨by show (-9223372036854775808:Int)≤i;omega,by omega⟩
 have f:∀ s:Int,0≤s→s<4294967296→(d.fin s).ok:=fun s h h'=>⟨e1,e2,e3,by show (0:Nat)<_;omega,by show (0:Nat)<_;omega,Nat.zero_le _,w s h h',w 0 (by omega) (by omega)⟩
 unfold QfX
 split
 ·exact q
 split
 ·split
  ·exact f 2 (by omega) (by omega)
  ·exact q
 split
 ·split
  ·exact f 2 (by omega) (by omega)
  ·exact f 3 (by omega) (by omega)
 ·exact q
theorem Qtb (d:Nk) (hd:d.ok) (xs:List Nat) (n:Nat) (S:ByteArray):(Qf4 d xs n S).1.ok:=by
 unfold Qf4
 split
 ·rename_i h
  exact ⟨hd.1,hd.2.1,by show (0:Nat)<_;omega,by show S.size<_;omega⟩
 ·exact hd
def QbA (M:Mc) (k:Int) (N:Nat) (S:ByteArray):Mc × Bool :=
 if M.ht=true then (M,false)
 else if k=2 then (if N=0 then (if noD S=true then (if M.ta=true then ({ M with ta:=false,tf:=true },true) else (M,false)) else (M,false)) else (M,false))
 else if k=3 then (if N≤255 then (if noD S=true then ({ M with ks:=QqG M.ks N },decide ((M.ks.size:Int)<16)) else (M,false)) else (M,false))
 else if k=4 then ({ M with d:=(QfX M.d M.m M.m.length k N S).1,m:=(QfX M.d M.m M.m.length k N S).2.1 },(QfX M.d M.m M.m.length k N S).2.2)
 else if k=5 then (if N=0 then ({ M with n:=(Qf4 M.n M.m M.m.length S).1,m:=(Qf4 M.n M.m M.m.length S).2.1 },(Qf4 M.n M.m M.m.length S).2.2) else (M,false))
 else if k=6 then (if noD S=true then ({ M with bt:=N },true) else (M,false))
 else (M,false)
theorem Qf6 (M:Mc) (k:Int) (N:Nat) (S:ByteArray):(QbA M k N S).1.m.length=M.m.length:=by
 have a:=Qei M.d M.m M.m.length k N S
 have b:=Qd5 M.n M.m M.m.length S
 unfold QbA
 repeat' split
 all_goals first|rfl|exact a|exact b
theorem QeK (M:Mc) (hM:M.ok) (k:Int) (N:Nat) (hN:N<4294967296) (S:ByteArray):(QbA M k N S).1.ok:=by
 have q:=hM
 obtain ⟨h1,h2,h3,h4,h5,h6,h7,h8,h9,g1,g2,g3,g4,g5⟩:=hM
 unfold QbA
 split
 ·exact q
 split
 ·split
  ·split
   ·split
    ·exact ⟨h1,h2,h3,h4,h5,h6,h7,h8,h9,g1,g2,g3,g4,g5⟩
    ·exact q
   ·exact q
  ·exact q
 split
 ·split
  ·split
   ·refine ⟨h1,h2,h3,h4,h5,h6,h7,h8,h9,g1,g2,g3,g4,?_⟩
    show (QqG M.ks N).size≤1000000
    unfold QqG
    split
    ·exact g5
    ·rw [ByteArray.size_append,strOfNums_size]
     simp;omega
   ·exact q
  ·exact q
 split
 ·refine ⟨h1,h2,h3,h4,h5,Qs5 _ _ _ _ _ _ h6,?_,Qru _ h8 _ _ _ _ _,h9,g1,g2,g3,g4,g5⟩
  show (QfX _ _ _ _ _ _).2.1.length≤_
  rw [Qei];exact h7
 split
 ·split
  ·refine ⟨h1,h2,h3,h4,h5,QsP _ _ _ _ h6,?_,h8,Qtb _ h9 _ _ _,g1,g2,g3,g4,g5⟩
   show (Qf4 _ _ _ _).2.1.length≤_
   rw [Qd5];exact h7
  ·exact q
 split
 ·split
  ·exact ⟨h1,h2,h3,h4,h5,h6,h7,h8,h9,g1,hN,g3,g4,g5⟩
  ·exact q
 ·exact q
theorem Qjy (M:Mc) (hM:M.ok) (k:Int) (N:Nat) (hN:N<4294967296) (S:ByteArray) (hSz:S.size≤1000000) (ck lg qu:Nat) (LG QU:List SV) (hLG:Qau LG=true) (hQU:Qau QU=true):Fn Tryz.prog 110 [.s (.ptr 0 0),.agg [.int .i64 k,.int .u32 N,.str S]] [⟨true,1,M.C 1++ [.int .u32 ck,.sl 2 0 lg,.sl 3 0 qu]⟩,⟨true,1,wsv M.m⟩,⟨false,4,LG⟩,⟨false,3,QU⟩]
  (· =⟨.a (.s (.bool (QbA M k N S).2)),[(0,some ⟨true,1,(QbA M k N S).1.C 1++ [.int .u32 ck,.sl 2 0 lg,.sl 3 0 qu]⟩),(1,some ⟨true,1,wsv (QbA M k N S).1.m⟩)],[]⟩):=by
 have q2:=QiF M.ta M.td M.tf
 have q3:=QiY M.ks hM.dv.2.2.2.2 N
 have q4:=Qe6 M.d hM.dk M.m _ rfl hM.ml k N hN S hSz
 have q5:=Qfj M.n hM.nk M.m _ rfl hM.ml S hSz
 have l4:=Qei M.d M.m M.m.length k N S
 have l5:=Qd5 M.n M.m M.m.length S
 have hsx:=Qaa M.m
 have hs4:=Qaa (QfX M.d M.m M.m.length k N S).2.1
 have hs5:=Qaa (Qf4 M.n M.m M.m.length S).2.1
 obtain ⟨D,hD⟩:∃ D,QbA M k N S=D:=⟨_,rfl⟩
 rw [hD]
 unfold QbA at hD
 generalize QfX M.d M.m M.m.length k N S=Z4 at *
 generalize Qf4 M.n M.m M.m.length S=Z5 at *
 generalize QqG M.ks N=k2 at *
 obtain ⟨⟨e0,e1,e2,e3,e4,e5,e6,e7⟩,m4,b4⟩:=Z4
 obtain ⟨⟨f0,f1,f2,f3,f4,f5⟩,m5,b5⟩:=Z5
 obtain ⟨hx,hc,hxr,hcr,hpr,hmr,_,hdk,hnk,hdv⟩:=hM
 obtain ⟨_,_,_,m,ks,ta,td,tf,d,n,_,_,_,_,ht⟩:=M
 dsimp only at *
 obtain ⟨_,_,_,_,_,_,_,_,_,_,_,_,_,_,_,_,rfl⟩:=Qaq hx
 obtain ⟨_,_,_,_,_,_,_,_,rfl⟩:=QaJ hc
 obtain ⟨_,_,_,_,_,_,_,_⟩:=d
 obtain ⟨_,_,_,_,_,_⟩:=n
 dsimp only [Mc.C,Mc.D,Dk.C,Nk.C,Dk.ok,Nk.ok] at *
 generalize hnn:m.length=nn at *
 generalize hX:wsv m=XX at *
 generalize hX4:wsv m4=X4 at *
 generalize hX5:wsv m5=X5 at *
 generalize decide ((ks.size:Int)<16)=kb at *
 clear hxr hcr hdk hnk hmr hdv hpr
 by_cases hht:ht=true
 ·rw [if_pos hht] at hD
  subst hht
  clear q2 q3 q4 q5
  subst hD
  dsimp only [Mc.C,Mc.D,Dk.C,Nk.C] at *
  simp only [Qaf,List.cons_append,List.nil_append] at *
  rw [hnn,hX]
  refine fnW Tryz.func110 ?_
  (repeat' ((conv=>whnf);first|(intro hb;first|exact zk0 hb|(try (replace hb:=zn0 hb)))|((first|apply Br.mk|apply Gd.mk)<;>(intro hb;first|(exfalso;simp only [decide_eq_true_eq,decide_eq_false_iff_not,beq_iff_eq,bne_iff_ne,beq_eq_false_iff_ne,bne_eq_false_iff_eq,ne_eq] at hb;omega)|exact aK2 hb|(simp only [decide_eq_true_eq,decide_eq_false_iff_not,beq_iff_eq,bne_iff_ne,beq_eq_false_iff_ne,bne_eq_false_iff_eq,ne_eq] at hb;first|(exfalso;omega)|skip)|skip))|refine zst ?_|refine zbx ?_ ?_|refine zgx ?_ ?_));(all_goals (try (conv=>whnf)))
  all_goals first|(exfalso;omega)|(exfalso;simp at hb;done)|(exfalso;simp_all;done)|(exact Qbm)
 rw [if_neg hht] at hD
 obtain rfl:ht=false:=by cases ht<;>simp_all
 clear hht
 by_cases h2:k=2
 ·rw [if_pos h2] at hD
  subst h2
  by_cases hN0:N=0
  ·rw [if_pos hN0] at hD
   subst hN0
   by_cases hS:noD S=true
   ·rw [if_pos hS] at hD
    replace hS:(S.toList==(⟨#[]⟩:ByteArray).toList)=true:=hS
    unfold Qw7 at q2
    cases ta
    ·rw [if_neg (by decide)] at hD q2
     clear q3 q4 q5
     subst hD
     dsimp only [Mc.C,Mc.D,Dk.C,Nk.C] at *
     simp only [Qaf,List.cons_append,List.nil_append] at *
     rw [hnn,hX]
     refine fnW Tryz.func110 ?_
     (repeat' ((conv=>whnf);first|(intro hb;first|exact zk0 hb|(try (replace hb:=zn0 hb)))|(refine zpu q2 ?_)|((first|apply Br.mk|apply Gd.mk)<;>(intro hb;first|(exfalso;simp only [decide_eq_true_eq,decide_eq_false_iff_not,beq_iff_eq,bne_iff_ne,beq_eq_false_iff_ne,bne_eq_false_iff_eq,ne_eq] at hb;omega)|exact aK2 hb|(simp only [decide_eq_true_eq,decide_eq_false_iff_not,beq_iff_eq,bne_iff_ne,beq_eq_false_iff_ne,bne_eq_false_iff_eq,ne_eq] at hb;first|(exfalso;omega)|skip)|skip))|refine zst ?_|refine zbx ?_ ?_|refine zgx ?_ ?_));(all_goals (try (conv=>whnf)))
     all_goals first|(exfalso;omega)|(exfalso;simp at hb;done)|(exfalso;simp_all;done)|(exact Qbm)
    ·rw [if_pos rfl] at hD q2
     clear q3 q4 q5
     subst hD
     dsimp only [Mc.C,Mc.D,Dk.C,Nk.C] at *
     simp only [Qaf,List.cons_append,List.nil_append] at *
     rw [hnn,hX]
     refine fnW Tryz.func110 ?_
     (repeat' ((conv=>whnf);first|(intro hb;first|exact zk0 hb|(try (replace hb:=zn0 hb)))|(refine zpu q2 ?_)|((first|apply Br.mk|apply Gd.mk)<;>(intro hb;first|(exfalso;simp only [decide_eq_true_eq,decide_eq_false_iff_not,beq_iff_eq,bne_iff_ne,beq_eq_false_iff_ne,bne_eq_false_iff_eq,ne_eq] at hb;omega)|exact aK2 hb|(simp only [decide_eq_true_eq,decide_eq_false_iff_not,beq_iff_eq,bne_iff_ne,beq_eq_false_iff_ne,bne_eq_false_iff_eq,ne_eq] at hb;first|(exfalso;omega)|skip)|skip))|refine zst ?_|refine zbx ?_ ?_|refine zgx ?_ ?_));(all_goals (try (conv=>whnf)))
     all_goals first|(exfalso;omega)|(exfalso;simp at hb;done)|(exfalso;simp_all;done)|(exact Qbm)
   ·rw [if_neg hS] at hD
    replace hS:(S.toList==(⟨#[]⟩:ByteArray).toList)=false:=Bool.eq_false_iff.2 hS
    clear q2 q3 q4 q5
    subst hD
    dsimp only [Mc.C,Mc.D,Dk.C,Nk.C] at *
    simp only [Qaf,List.cons_append,List.nil_append] at *
    rw [hnn,hX]
    refine fnW Tryz.func110 ?_
    (repeat' ((conv=>whnf);first|(intro hb;first|exact zk0 hb|(try (replace hb:=zn0 hb)))|((first|apply Br.mk|apply Gd.mk)<;>(intro hb;first|(exfalso;simp only [decide_eq_true_eq,decide_eq_false_iff_not,beq_iff_eq,bne_iff_ne,beq_eq_false_iff_ne,bne_eq_false_iff_eq,ne_eq] at hb;omega)|exact aK2 hb|(simp only [decide_eq_true_eq,decide_eq_false_iff_not,beq_iff_eq,bne_iff_ne,beq_eq_false_iff_ne,bne_eq_false_iff_eq,ne_eq] at hb;first|(exfalso;omega)|skip)|skip))|refine zst ?_|refine zbx ?_ ?_|refine zgx ?_ ?_));(all_goals (try (conv=>whnf)))
    all_goals first|(exfalso;omega)|(exfalso;simp at hb;done)|(exfalso;simp_all;done)|(exact Qbm)
  ·rw [if_neg hN0] at hD
   clear q2 q3 q4 q5
   subst hD
   dsimp only [Mc.C,Mc.D,Dk.C,Nk.C] at *
   simp only [Qaf,List.cons_append,List.nil_append] at *
   rw [hnn,hX]
   refine fnW Tryz.func110 ?_
   (repeat' ((conv=>whnf);first|(intro hb;first|exact zk0 hb|(try (replace hb:=zn0 hb)))|((first|apply Br.mk|apply Gd.mk)<;>(intro hb;first|(exfalso;simp only [decide_eq_true_eq,decide_eq_false_iff_not,beq_iff_eq,bne_iff_ne,beq_eq_false_iff_ne,bne_eq_false_iff_eq,ne_eq] at hb;omega)|exact aK2 hb|(simp only [decide_eq_true_eq,decide_eq_false_iff_not,beq_iff_eq,bne_iff_ne,beq_eq_false_iff_ne,bne_eq_false_iff_eq,ne_eq] at hb;first|(exfalso;omega)|skip)|skip))|refine zst ?_|refine zbx ?_ ?_|refine zgx ?_ ?_));(all_goals (try (conv=>whnf)))
   all_goals first|(exfalso;omega)|(exfalso;simp at hb;done)|(exfalso;simp_all;done)|(exact Qbm)
 rw [if_neg h2] at hD
 by_cases h3:k=3
 ·rw [if_pos h3] at hD
  subst h3
  by_cases hN0:N≤255
  ·rw [if_pos hN0] at hD
   by_cases hS:noD S=true
   ·rw [if_pos hS] at hD
    replace hS:(S.toList==(⟨#[]⟩:ByteArray).toList)=true:=hS
    have c8:IntKind.u8.wrap (N:Int)=N:=wu8 (by omega) (by omega)
    clear q2 q4 q5
    subst hD
    dsimp only [Mc.C,Mc.D,Dk.C,Nk.C] at *
    simp only [Qaf,List.cons_append,List.nil_append] at *
    rw [hnn,hX]
    refine fnW Tryz.func110 ?_
    (repeat' ((conv=>whnf);first|(intro hb;first|exact zk0 hb|(try (replace hb:=zn0 hb)))|(with_reducible refine zv c8 ?_)|(refine zpu q3 ?_)|((first|apply Br.mk|apply Gd.mk)<;>(intro hb;first|(exfalso;simp only [decide_eq_true_eq,decide_eq_false_iff_not,beq_iff_eq,bne_iff_ne,beq_eq_false_iff_ne,bne_eq_false_iff_eq,ne_eq] at hb;omega)|exact aK2 hb|(simp only [decide_eq_true_eq,decide_eq_false_iff_not,beq_iff_eq,bne_iff_ne,beq_eq_false_iff_ne,bne_eq_false_iff_eq,ne_eq] at hb;first|(exfalso;omega)|skip)|skip))|refine zst ?_|refine zbx ?_ ?_|refine zgx ?_ ?_));(all_goals (try (conv=>whnf)))
    all_goals first|(exfalso;omega)|(exfalso;simp at hb;done)|(exfalso;simp_all;done)|(exact Qbm)
   ·rw [if_neg hS] at hD
    replace hS:(S.toList==(⟨#[]⟩:ByteArray).toList)=false:=Bool.eq_false_iff.2 hS
    clear q2 q3 q4 q5
    subst hD
    dsimp only [Mc.C,Mc.D,Dk.C,Nk.C] at *
    simp only [Qaf,List.cons_append,List.nil_append] at *
    rw [hnn,hX]
    refine fnW Tryz.func110 ?_
    (repeat' ((conv=>whnf);first|(intro hb;first|exact zk0 hb|(try (replace hb:=zn0 hb)))|((first|apply Br.mk|apply Gd.mk)<;>(intro hb;first|(exfalso;simp only [decide_eq_true_eq,decide_eq_false_iff_not,beq_iff_eq,bne_iff_ne,beq_eq_false_iff_ne,bne_eq_false_iff_eq,ne_eq] at hb;omega)|exact aK2 hb|(simp only [decide_eq_true_eq,decide_eq_false_iff_not,beq_iff_eq,bne_iff_ne,beq_eq_false_iff_ne,bne_eq_false_iff_eq,ne_eq] at hb;first|(exfalso;omega)|skip)|skip))|refine zst ?_|refine zbx ?_ ?_|refine zgx ?_ ?_));(all_goals (try (conv=>whnf)))
    all_goals first|(exfalso;omega)|(exfalso;simp at hb;done)|(exfalso;simp_all;done)|(exact Qbm)
  ·rw [if_neg hN0] at hD
   clear q2 q3 q4 q5
   subst hD
   dsimp only [Mc.C,Mc.D,Dk.C,Nk.C] at *
   simp only [Qaf,List.cons_append,List.nil_append] at *
   rw [hnn,hX]
   refine fnW Tryz.func110 ?_
   (repeat' ((conv=>whnf);first|(intro hb;first|exact zk0 hb|(try (replace hb:=zn0 hb)))|((first|apply Br.mk|apply Gd.mk)<;>(intro hb;first|(exfalso;simp only [decide_eq_true_eq,decide_eq_false_iff_not,beq_iff_eq,bne_iff_ne,beq_eq_false_iff_ne,bne_eq_false_iff_eq,ne_eq] at hb;omega)|exact aK2 hb|(simp only [decide_eq_true_eq,decide_eq_false_iff_not,beq_iff_eq,bne_iff_ne,beq_eq_false_iff_ne,bne_eq_false_iff_eq,ne_eq] at hb;first|(exfalso;omega)|skip)|skip))|refine zst ?_|refine zbx ?_ ?_|refine zgx ?_ ?_));(all_goals (try (conv=>whnf)))
   all_goals first|(exfalso;omega)|(exfalso;simp at hb;done)|(exfalso;simp_all;done)|(exact Qbm)
 rw [if_neg h3] at hD
 by_cases h4:k=4
 ·rw [if_pos h4] at hD
  subst h4
  clear q2 q3 q5
  subst hD
  dsimp only [Mc.C,Mc.D,Dk.C,Nk.C] at *
  simp only [Qaf,List.cons_append,List.nil_append] at *
  rw [l4,hX4]
  refine fnW Tryz.func110 ?_
  (repeat' ((conv=>whnf);first|(intro hb;first|exact zk0 hb|(try (replace hb:=zn0 hb)))|(refine QbY q4 ?_)|((first|apply Br.mk|apply Gd.mk)<;>(intro hb;first|(exfalso;simp only [decide_eq_true_eq,decide_eq_false_iff_not,beq_iff_eq,bne_iff_ne,beq_eq_false_iff_ne,bne_eq_false_iff_eq,ne_eq] at hb;omega)|exact aK2 hb|(simp only [decide_eq_true_eq,decide_eq_false_iff_not,beq_iff_eq,bne_iff_ne,beq_eq_false_iff_ne,bne_eq_false_iff_eq,ne_eq] at hb;first|(exfalso;omega)|skip)|skip))|refine zst ?_|refine zbx ?_ ?_|refine zgx ?_ ?_));(all_goals (try (conv=>whnf)))
  all_goals first|(exfalso;omega)|(exfalso;simp at hb;done)|(exfalso;simp_all;done)|(exact Qbm)
 rw [if_neg h4] at hD
 by_cases h5:k=5
 ·rw [if_pos h5] at hD
  subst h5
  by_cases hN0:N=0
  ·rw [if_pos hN0] at hD
   subst hN0
   clear q2 q3 q4
   subst hD
   dsimp only [Mc.C,Mc.D,Dk.C,Nk.C] at *
   simp only [Qaf,List.cons_append,List.nil_append] at *
   rw [l5,hX5]
   refine fnW Tryz.func110 ?_
   (repeat' ((conv=>whnf);first|(intro hb;first|exact zk0 hb|(try (replace hb:=zn0 hb)))|(refine QbY q5 ?_)|((first|apply Br.mk|apply Gd.mk)<;>(intro hb;first|(exfalso;simp only [decide_eq_true_eq,decide_eq_false_iff_not,beq_iff_eq,bne_iff_ne,beq_eq_false_iff_ne,bne_eq_false_iff_eq,ne_eq] at hb;omega)|exact aK2 hb|(simp only [decide_eq_true_eq,decide_eq_false_iff_not,beq_iff_eq,bne_iff_ne,beq_eq_false_iff_ne,bne_eq_false_iff_eq,ne_eq] at hb;first|(exfalso;omega)|skip)|skip))|refine zst ?_|refine zbx ?_ ?_|refine zgx ?_ ?_));(all_goals (try (conv=>whnf)))
   all_goals first|(exfalso;omega)|(exfalso;simp at hb;done)|(exfalso;simp_all;done)|(exact Qbm)
  ·rw [if_neg hN0] at hD
   clear q2 q3 q4 q5
   subst hD
   dsimp only [Mc.C,Mc.D,Dk.C,Nk.C] at *
   simp only [Qaf,List.cons_append,List.nil_append] at *
   rw [hnn,hX]
   refine fnW Tryz.func110 ?_
   (repeat' ((conv=>whnf);first|(intro hb;first|exact zk0 hb|(try (replace hb:=zn0 hb)))|((first|apply Br.mk|apply Gd.mk)<;>(intro hb;first|(exfalso;simp only [decide_eq_true_eq,decide_eq_false_iff_not,beq_iff_eq,bne_iff_ne,beq_eq_false_iff_ne,bne_eq_false_iff_eq,ne_eq] at hb;omega)|exact aK2 hb|(simp only [decide_eq_true_eq,decide_eq_false_iff_not,beq_iff_eq,bne_iff_ne,beq_eq_false_iff_ne,bne_eq_false_iff_eq,ne_eq] at hb;first|(exfalso;omega)|skip)|skip))|refine zst ?_|refine zbx ?_ ?_|refine zgx ?_ ?_));(all_goals (try (conv=>whnf)))
   all_goals first|(exfalso;omega)|(exfalso;simp at hb;done)|(exfalso;simp_all;done)|(exact Qbm)
 rw [if_neg h5] at hD
 by_cases h6:k=6
 ·rw [if_pos h6] at hD
  subst h6
  by_cases hS:noD S=true
  ·rw [if_pos hS] at hD
   replace hS:(S.toList==(⟨#[]⟩:ByteArray).toList)=true:=hS
   clear q2 q3 q4 q5
   subst hD
   dsimp only [Mc.C,Mc.D,Dk.C,Nk.C] at *
   simp only [Qaf,List.cons_append,List.nil_append] at *
   rw [hnn,hX]
   refine fnW Tryz.func110 ?_
   (repeat' ((conv=>whnf);first|(intro hb;first|exact zk0 hb|(try (replace hb:=zn0 hb)))|((first|apply Br.mk|apply Gd.mk)<;>(intro hb;first|(exfalso;simp only [decide_eq_true_eq,decide_eq_false_iff_not,beq_iff_eq,bne_iff_ne,beq_eq_false_iff_ne,bne_eq_false_iff_eq,ne_eq] at hb;omega)|exact aK2 hb|(simp only [decide_eq_true_eq,decide_eq_false_iff_not,beq_iff_eq,bne_iff_ne,beq_eq_false_iff_ne,bne_eq_false_iff_eq,ne_eq] at hb;first|(exfalso;omega)|skip)|skip))|refine zst ?_|refine zbx ?_ ?_|refine zgx ?_ ?_));(all_goals (try (conv=>whnf)))
   all_goals first|(exfalso;omega)|(exfalso;simp at hb;done)|(exfalso;simp_all;done)|(exact Qbm)
  ·rw [if_neg hS] at hD
   replace hS:(S.toList==(⟨#[]⟩:ByteArray).toList)=false:=Bool.eq_false_iff.2 hS
   clear q2 q3 q4 q5
   subst hD
   dsimp only [Mc.C,Mc.D,Dk.C,Nk.C] at *
   simp only [Qaf,List.cons_append,List.nil_append] at *
   rw [hnn,hX]
   refine fnW Tryz.func110 ?_
   (repeat' ((conv=>whnf);first|(intro hb;first|exact zk0 hb|(try (replace hb:=zn0 hb)))|((first|apply Br.mk|apply Gd.mk)<;>(intro hb;first|(exfalso;simp only [decide_eq_true_eq,decide_eq_false_iff_not,beq_iff_eq,bne_iff_ne,beq_eq_false_iff_ne,bne_eq_false_iff_eq,ne_eq] at hb;omega)|exact aK2 hb|(simp only [decide_eq_true_eq,decide_eq_false_iff_not,beq_iff_eq,bne_iff_ne,beq_eq_false_iff_ne,bne_eq_false_iff_eq,ne_eq] at hb;first|(exfalso;omega)|skip)|skip))|refine zst ?_|refine zbx ?_ ?_|refine zgx ?_ ?_));(all_goals (try (conv=>whnf)))
   all_goals first|(exfalso;omega)|(exfalso;simp at hb;done)|(exfalso;simp_all;done)|(exact Qbm)
 rw [if_neg h6] at hD
 clear q2 q3 q4 q5
 subst hD
 dsimp only [Mc.C,Mc.D,Dk.C,Nk.C] at *
 simp only [Qaf,List.cons_append,List.nil_append] at *
 rw [hnn,hX]
 refine fnW Tryz.func110 ?_
 (repeat' ((conv=>whnf);first|(intro hb;first|exact zk0 hb|(try (replace hb:=zn0 hb)))|((first|apply Br.mk|apply Gd.mk)<;>(intro hb;first|(exfalso;simp only [decide_eq_true_eq,decide_eq_false_iff_not,beq_iff_eq,bne_iff_ne,beq_eq_false_iff_ne,bne_eq_false_iff_eq,ne_eq] at hb;omega)|exact aK2 hb|(simp only [decide_eq_true_eq,decide_eq_false_iff_not,beq_iff_eq,bne_iff_ne,beq_eq_false_iff_ne,bne_eq_false_iff_eq,ne_eq] at hb;first|(exfalso;omega)|skip)|skip))|refine zst ?_|refine zbx ?_ ?_|refine zgx ?_ ?_));(all_goals (try (conv=>whnf)))
 all_goals first|(exfalso;omega)|(exfalso;simp at hb;done)|(exfalso;simp_all;done)|(exact Qbm)
theorem QgL (M:Mc) (hM:M.ok) (k:Int) (N:Nat) (hN:N<4294967296) (S:ByteArray) (hSz:S.size≤1000000) (ck lg qu:Nat) (LG QU:List SV) (hLG:Qau LG=true) (hQU:Qau QU=true):Fn Tryz.prog 136 [.s (.ptr 0 0),.agg [.int .i64 k,.int .u32 N,.str S]] [⟨true,1,M.C 1++ [.int .u32 ck,.sl 2 0 lg,.sl 3 0 qu]⟩,⟨true,1,wsv M.m⟩,⟨false,4,LG⟩,⟨false,3,QU⟩]
  (· =⟨.a (.s (.bool (QbA M k N S).2)),[(0,some ⟨true,1,(QbA M k N S).1.C 1++ [.int .u32 ck,.sl 2 0 lg,.sl 3 0 qu]⟩),(1,some ⟨true,1,wsv (QbA M k N S).1.m⟩)],[]⟩):=by
 have q:=Qjy M hM k N hN S hSz ck lg qu LG QU hLG hQU
 have hl:(QbA M k N S).1.m.length=M.m.length:=Qf6 M k N S
 have hx2:=(QeK M hM k N hN S).x
 have hc2:=(QeK M hM k N hN S).c
 have hsx:=Qaa M.m
 have hs2:=Qaa (QbA M k N S).1.m
 generalize (QbA M k N S).2=ok at *
 generalize (QbA M k N S).1=M2 at *
 obtain ⟨_,_,_,m',_,_,_,_,d',n',_,_,_,_,_⟩:=M2
 dsimp only at *
 obtain ⟨_,_,_,_,_,_,_,_,_,_,_,_,_,_,_,_,rfl⟩:=Qaq hx2
 obtain ⟨_,_,_,_,_,_,_,_,rfl⟩:=QaJ hc2
 obtain ⟨_,_,_,_,_,_,_,_⟩:=d'
 obtain ⟨_,_,_,_,_,_⟩:=n'
 obtain ⟨hx,hc,hxr,hcr,hpr,hmr,_,hdk,hnk,hdv⟩:=hM
 obtain ⟨x,_,c,m,_,_,_,_,d,n,_,_,_,_,_⟩:=M
 dsimp only at *
 obtain ⟨_,_,_,_,_,_,_,_,_,_,_,_,_,_,_,_,rfl⟩:=Qaq hx
 obtain ⟨_,_,_,_,_,_,_,_,rfl⟩:=QaJ hc
 obtain ⟨_,_,_,_,_,_,_,_⟩:=d
 obtain ⟨_,_,_,_,_,_⟩:=n
 dsimp only [Mc.C,Mc.D,Dk.C,Nk.C,Dk.ok,Nk.ok] at *
 generalize hnn:m.length=nn at *
 generalize hnn2:m'.length=nn2 at *
 generalize hX:wsv m=XX at *
 generalize hX2:wsv m'=X2 at *
 subst hl
 clear hxr hcr hdk hnk hmr hdv hpr
 simp only [Qaf,List.cons_append,List.nil_append,Mc.C,Mc.D,Dk.C,Nk.C,hnn2] at *
 refine fnW Tryz.func136 ?_
 (repeat' ((conv=>whnf);first|(intro hb;first|exact zk3 hb|(try (replace hb:=zn0 hb)))|(refine Qie q ?_)|refine zst ?_|refine zbx ?_ ?_|refine zgx ?_ ?_|refine eqR ?_));(all_goals (try (conv=>whnf)))
 all_goals first|(exfalso;omega)|(exfalso;simp at hb;done)|(exfalso;simp_all;done)|(exact Qbm)
theorem QjH (M:Mc) (hM:M.ok) (k:Int) (N:Nat) (hN:N<4294967296) (S:ByteArray) (hSz:S.size≤1000000) (ck lg:Nat) (LG:List SV) (hLG:Qau LG=true):Fn Tryz.prog 110 [.s (.ptr 0 0),.agg [.int .i64 k,.int .u32 N,.str S]] [⟨true,1,M.C 1++ [.int .u32 ck,.sl 2 0 lg,.nilsl]⟩,⟨true,1,wsv M.m⟩,⟨false,4,LG⟩]
  (· =⟨.a (.s (.bool (QbA M k N S).2)),[(0,some ⟨true,1,(QbA M k N S).1.C 1++ [.int .u32 ck,.sl 2 0 lg,.nilsl]⟩),(1,some ⟨true,1,wsv (QbA M k N S).1.m⟩)],[]⟩):=by
 have q2:=QiF M.ta M.td M.tf
 have q3:=QiY M.ks hM.dv.2.2.2.2 N
 have q4:=Qe6 M.d hM.dk M.m _ rfl hM.ml k N hN S hSz
 have q5:=Qfj M.n hM.nk M.m _ rfl hM.ml S hSz
 have l4:=Qei M.d M.m M.m.length k N S
 have l5:=Qd5 M.n M.m M.m.length S
 have hsx:=Qaa M.m
 have hs4:=Qaa (QfX M.d M.m M.m.length k N S).2.1
 have hs5:=Qaa (Qf4 M.n M.m M.m.length S).2.1
 obtain ⟨D,hD⟩:∃ D,QbA M k N S=D:=⟨_,rfl⟩
 rw [hD]
 unfold QbA at hD
 generalize QfX M.d M.m M.m.length k N S=Z4 at *
 generalize Qf4 M.n M.m M.m.length S=Z5 at *
 generalize QqG M.ks N=k2 at *
 obtain ⟨⟨e0,e1,e2,e3,e4,e5,e6,e7⟩,m4,b4⟩:=Z4
 obtain ⟨⟨f0,f1,f2,f3,f4,f5⟩,m5,b5⟩:=Z5
 obtain ⟨hx,hc,hxr,hcr,hpr,hmr,_,hdk,hnk,hdv⟩:=hM
 obtain ⟨_,_,_,m,ks,ta,td,tf,d,n,_,_,_,_,ht⟩:=M
 dsimp only at *
 obtain ⟨_,_,_,_,_,_,_,_,_,_,_,_,_,_,_,_,rfl⟩:=Qaq hx
 obtain ⟨_,_,_,_,_,_,_,_,rfl⟩:=QaJ hc
 obtain ⟨_,_,_,_,_,_,_,_⟩:=d
 obtain ⟨_,_,_,_,_,_⟩:=n
 dsimp only [Mc.C,Mc.D,Dk.C,Nk.C,Dk.ok,Nk.ok] at *
 generalize hnn:m.length=nn at *
 generalize hX:wsv m=XX at *
 generalize hX4:wsv m4=X4 at *
 generalize hX5:wsv m5=X5 at *
 generalize decide ((ks.size:Int)<16)=kb at *
 clear hxr hcr hdk hnk hmr hdv hpr
 by_cases hht:ht=true
 ·rw [if_pos hht] at hD
  subst hht
  clear q2 q3 q4 q5
  subst hD
  dsimp only [Mc.C,Mc.D,Dk.C,Nk.C] at *
  simp only [Qaf,List.cons_append,List.nil_append] at *
  rw [hnn,hX]
  refine fnW Tryz.func110 ?_
  (repeat' ((conv=>whnf);first|(intro hb;first|exact zk0 hb|(try (replace hb:=zn0 hb)))|((first|apply Br.mk|apply Gd.mk)<;>(intro hb;first|(exfalso;simp only [decide_eq_true_eq,decide_eq_false_iff_not,beq_iff_eq,bne_iff_ne,beq_eq_false_iff_ne,bne_eq_false_iff_eq,ne_eq] at hb;omega)|exact aK2 hb|(simp only [decide_eq_true_eq,decide_eq_false_iff_not,beq_iff_eq,bne_iff_ne,beq_eq_false_iff_ne,bne_eq_false_iff_eq,ne_eq] at hb;first|(exfalso;omega)|skip)|skip))|refine zst ?_|refine zbx ?_ ?_|refine zgx ?_ ?_));(all_goals (try (conv=>whnf)))
  all_goals first|(exfalso;omega)|(exfalso;simp at hb;done)|(exfalso;simp_all;done)|(exact QaV)
 rw [if_neg hht] at hD
 obtain rfl:ht=false:=by cases ht<;>simp_all
 clear hht
 by_cases h2:k=2
 ·rw [if_pos h2] at hD
  subst h2
  by_cases hN0:N=0
  ·rw [if_pos hN0] at hD
   subst hN0
   by_cases hS:noD S=true
   ·rw [if_pos hS] at hD
    replace hS:(S.toList==(⟨#[]⟩:ByteArray).toList)=true:=hS
    unfold Qw7 at q2
    cases ta
    ·rw [if_neg (by decide)] at hD q2
     clear q3 q4 q5
     subst hD
     dsimp only [Mc.C,Mc.D,Dk.C,Nk.C] at *
     simp only [Qaf,List.cons_append,List.nil_append] at *
     rw [hnn,hX]
     refine fnW Tryz.func110 ?_
     (repeat' ((conv=>whnf);first|(intro hb;first|exact zk0 hb|(try (replace hb:=zn0 hb)))|(refine zpu q2 ?_)|((first|apply Br.mk|apply Gd.mk)<;>(intro hb;first|(exfalso;simp only [decide_eq_true_eq,decide_eq_false_iff_not,beq_iff_eq,bne_iff_ne,beq_eq_false_iff_ne,bne_eq_false_iff_eq,ne_eq] at hb;omega)|exact aK2 hb|(simp only [decide_eq_true_eq,decide_eq_false_iff_not,beq_iff_eq,bne_iff_ne,beq_eq_false_iff_ne,bne_eq_false_iff_eq,ne_eq] at hb;first|(exfalso;omega)|skip)|skip))|refine zst ?_|refine zbx ?_ ?_|refine zgx ?_ ?_));(all_goals (try (conv=>whnf)))
     all_goals first|(exfalso;omega)|(exfalso;simp at hb;done)|(exfalso;simp_all;done)|(exact QaV)
    ·rw [if_pos rfl] at hD q2
     clear q3 q4 q5
     subst hD
     dsimp only [Mc.C,Mc.D,Dk.C,Nk.C] at *
     simp only [Qaf,List.cons_append,List.nil_append] at *
     rw [hnn,hX]
     refine fnW Tryz.func110 ?_
     (repeat' ((conv=>whnf);first|(intro hb;first|exact zk0 hb|(try (replace hb:=zn0 hb)))|(refine zpu q2 ?_)|((first|apply Br.mk|apply Gd.mk)<;>(intro hb;first|(exfalso;simp only [decide_eq_true_eq,decide_eq_false_iff_not,beq_iff_eq,bne_iff_ne,beq_eq_false_iff_ne,bne_eq_false_iff_eq,ne_eq] at hb;omega)|exact aK2 hb|(simp only [decide_eq_true_eq,decide_eq_false_iff_not,beq_iff_eq,bne_iff_ne,beq_eq_false_iff_ne,bne_eq_false_iff_eq,ne_eq] at hb;first|(exfalso;omega)|skip)|skip))|refine zst ?_|refine zbx ?_ ?_|refine zgx ?_ ?_));(all_goals (try (conv=>whnf)))
     all_goals first|(exfalso;omega)|(exfalso;simp at hb;done)|(exfalso;simp_all;done)|(exact QaV)
   ·rw [if_neg hS] at hD
    replace hS:(S.toList==(⟨#[]⟩:ByteArray).toList)=false:=Bool.eq_false_iff.2 hS
    clear q2 q3 q4 q5
    subst hD
    dsimp only [Mc.C,Mc.D,Dk.C,Nk.C] at *
    simp only [Qaf,List.cons_append,List.nil_append] at *
    rw [hnn,hX]
    refine fnW Tryz.func110 ?_
    (repeat' ((conv=>whnf);first|(intro hb;first|exact zk0 hb|(try (replace hb:=zn0 hb)))|((first|apply Br.mk|apply Gd.mk)<;>(intro hb;first|(exfalso;simp only [decide_eq_true_eq,decide_eq_false_iff_not,beq_iff_eq,bne_iff_ne,beq_eq_false_iff_ne,bne_eq_false_iff_eq,ne_eq] at hb;omega)|exact aK2 hb|(simp only [decide_eq_true_eq,decide_eq_false_iff_not,beq_iff_eq,bne_iff_ne,beq_eq_false_iff_ne,bne_eq_false_iff_eq,ne_eq] at hb;first|(exfalso;omega)|skip)|skip))|refine zst ?_|refine zbx ?_ ?_|refine zgx ?_ ?_));(all_goals (try (conv=>whnf)))
    all_goals first|(exfalso;omega)|(exfalso;simp at hb;done)|(exfalso;simp_all;done)|(exact QaV)
  ·rw [if_neg hN0] at hD
   clear q2 q3 q4 q5
   subst hD
   dsimp only [Mc.C,Mc.D,Dk.C,Nk.C] at *
   simp only [Qaf,List.cons_append,List.nil_append] at *
   rw [hnn,hX]
   refine fnW Tryz.func110 ?_
   (repeat' ((conv=>whnf);first|(intro hb;first|exact zk0 hb|(try (replace hb:=zn0 hb)))|((first|apply Br.mk|apply Gd.mk)<;>(intro hb;first|(exfalso;simp only [decide_eq_true_eq,decide_eq_false_iff_not,beq_iff_eq,bne_iff_ne,beq_eq_false_iff_ne,bne_eq_false_iff_eq,ne_eq] at hb;omega)|exact aK2 hb|(simp only [decide_eq_true_eq,decide_eq_false_iff_not,beq_iff_eq,bne_iff_ne,beq_eq_false_iff_ne,bne_eq_false_iff_eq,ne_eq] at hb;first|(exfalso;omega)|skip)|skip))|refine zst ?_|refine zbx ?_ ?_|refine zgx ?_ ?_));(all_goals (try (conv=>whnf)))
   all_goals first|(exfalso;omega)|(exfalso;simp at hb;done)|(exfalso;simp_all;done)|(exact QaV)
 rw [if_neg h2] at hD
 by_cases h3:k=3
 ·rw [if_pos h3] at hD
  subst h3
  by_cases hN0:N≤255
  ·rw [if_pos hN0] at hD
   by_cases hS:noD S=true
   ·rw [if_pos hS] at hD
    replace hS:(S.toList==(⟨#[]⟩:ByteArray).toList)=true:=hS
    have c8:IntKind.u8.wrap (N:Int)=N:=wu8 (by omega) (by omega)
    clear q2 q4 q5
    subst hD
    dsimp only [Mc.C,Mc.D,Dk.C,Nk.C] at *
    simp only [Qaf,List.cons_append,List.nil_append] at *
    rw [hnn,hX]
    refine fnW Tryz.func110 ?_
    (repeat' ((conv=>whnf);first|(intro hb;first|exact zk0 hb|(try (replace hb:=zn0 hb)))|(with_reducible refine zv c8 ?_)|(refine zpu q3 ?_)|((first|apply Br.mk|apply Gd.mk)<;>(intro hb;first|(exfalso;simp only [decide_eq_true_eq,decide_eq_false_iff_not,beq_iff_eq,bne_iff_ne,beq_eq_false_iff_ne,bne_eq_false_iff_eq,ne_eq] at hb;omega)|exact aK2 hb|(simp only [decide_eq_true_eq,decide_eq_false_iff_not,beq_iff_eq,bne_iff_ne,beq_eq_false_iff_ne,bne_eq_false_iff_eq,ne_eq] at hb;first|(exfalso;omega)|skip)|skip))|refine zst ?_|refine zbx ?_ ?_|refine zgx ?_ ?_));(all_goals (try (conv=>whnf)))
    all_goals first|(exfalso;omega)|(exfalso;simp at hb;done)|(exfalso;simp_all;done)|(exact QaV)
   ·rw [if_neg hS] at hD
    replace hS:(S.toList==(⟨#[]⟩:ByteArray).toList)=false:=Bool.eq_false_iff.2 hS
    clear q2 q3 q4 q5
    subst hD
    dsimp only [Mc.C,Mc.D,Dk.C,Nk.C] at *
    simp only [Qaf,List.cons_append,List.nil_append] at *
    rw [hnn,hX]
    refine fnW Tryz.func110 ?_
    (repeat' ((conv=>whnf);first|(intro hb;first|exact zk0 hb|(try (replace hb:=zn0 hb)))|((first|apply Br.mk|apply Gd.mk)<;>(intro hb;first|(exfalso;simp only [decide_eq_true_eq,decide_eq_false_iff_not,beq_iff_eq,bne_iff_ne,beq_eq_false_iff_ne,bne_eq_false_iff_eq,ne_eq] at hb;omega)|exact aK2 hb|(simp only [decide_eq_true_eq,decide_eq_false_iff_not,beq_iff_eq,bne_iff_ne,beq_eq_false_iff_ne,bne_eq_false_iff_eq,ne_eq] at hb;first|(exfalso;omega)|skip)|skip))|refine zst ?_|refine zbx ?_ ?_|refine zgx ?_ ?_));(all_goals (try (conv=>whnf)))
    all_goals first|(exfalso;omega)|(exfalso;simp at hb;done)|(exfalso;simp_all;done)|(exact QaV)
  ·rw [if_neg hN0] at hD
   clear q2 q3 q4 q5
   subst hD
   dsimp only [Mc.C,Mc.D,Dk.C,Nk.C] at *
   simp only [Qaf,List.cons_append,List.nil_append] at *
   rw [hnn,hX]
   refine fnW Tryz.func110 ?_
   (repeat' ((conv=>whnf);first|(intro hb;first|exact zk0 hb|(try (replace hb:=zn0 hb)))|((first|apply Br.mk|apply Gd.mk)<;>(intro hb;first|(exfalso;simp only [decide_eq_true_eq,decide_eq_false_iff_not,beq_iff_eq,bne_iff_ne,beq_eq_false_iff_ne,bne_eq_false_iff_eq,ne_eq] at hb;omega)|exact aK2 hb|(simp only [decide_eq_true_eq,decide_eq_false_iff_not,beq_iff_eq,bne_iff_ne,beq_eq_false_iff_ne,bne_eq_false_iff_eq,ne_eq] at hb;first|(exfalso;omega)|skip)|skip))|refine zst ?_|refine zbx ?_ ?_|refine zgx ?_ ?_));(all_goals (try (conv=>whnf)))
   all_goals first|(exfalso;omega)|(exfalso;simp at hb;done)|(exfalso;simp_all;done)|(exact QaV)
 rw [if_neg h3] at hD
 by_cases h4:k=4
 ·rw [if_pos h4] at hD
  subst h4
  clear q2 q3 q5
  subst hD
  dsimp only [Mc.C,Mc.D,Dk.C,Nk.C] at *
  simp only [Qaf,List.cons_append,List.nil_append] at *
  rw [l4,hX4]
  refine fnW Tryz.func110 ?_
  (repeat' ((conv=>whnf);first|(intro hb;first|exact zk0 hb|(try (replace hb:=zn0 hb)))|(refine QbY q4 ?_)|((first|apply Br.mk|apply Gd.mk)<;>(intro hb;first|(exfalso;simp only [decide_eq_true_eq,decide_eq_false_iff_not,beq_iff_eq,bne_iff_ne,beq_eq_false_iff_ne,bne_eq_false_iff_eq,ne_eq] at hb;omega)|exact aK2 hb|(simp only [decide_eq_true_eq,decide_eq_false_iff_not,beq_iff_eq,bne_iff_ne,beq_eq_false_iff_ne,bne_eq_false_iff_eq,ne_eq] at hb;first|(exfalso;omega)|skip)|skip))|refine zst ?_|refine zbx ?_ ?_|refine zgx ?_ ?_));(all_goals (try (conv=>whnf)))
  all_goals first|(exfalso;omega)|(exfalso;simp at hb;done)|(exfalso;simp_all;done)|(exact QaV)
 rw [if_neg h4] at hD
 by_cases h5:k=5
 ·rw [if_pos h5] at hD
  subst h5
  by_cases hN0:N=0
  ·rw [if_pos hN0] at hD
   subst hN0
   clear q2 q3 q4
   subst hD
   dsimp only [Mc.C,Mc.D,Dk.C,Nk.C] at *
   simp only [Qaf,List.cons_append,List.nil_append] at *
   rw [l5,hX5]
   refine fnW Tryz.func110 ?_
   (repeat' ((conv=>whnf);first|(intro hb;first|exact zk0 hb|(try (replace hb:=zn0 hb)))|(refine QbY q5 ?_)|((first|apply Br.mk|apply Gd.mk)<;>(intro hb;first|(exfalso;simp only [decide_eq_true_eq,decide_eq_false_iff_not,beq_iff_eq,bne_iff_ne,beq_eq_false_iff_ne,bne_eq_false_iff_eq,ne_eq] at hb;omega)|exact aK2 hb|(simp only [decide_eq_true_eq,decide_eq_false_iff_not,beq_iff_eq,bne_iff_ne,beq_eq_false_iff_ne,bne_eq_false_iff_eq,ne_eq] at hb;first|(exfalso;omega)|skip)|skip))|refine zst ?_|refine zbx ?_ ?_|refine zgx ?_ ?_));(all_goals (try (conv=>whnf)))
   all_goals first|(exfalso;omega)|(exfalso;simp at hb;done)|(exfalso;simp_all;done)|(exact QaV)
  ·rw [if_neg hN0] at hD
   clear q2 q3 q4 q5
   subst hD
   dsimp only [Mc.C,Mc.D,Dk.C,Nk.C] at *
   simp only [Qaf,List.cons_append,List.nil_append] at *
   rw [hnn,hX]
   refine fnW Tryz.func110 ?_
   (repeat' ((conv=>whnf);first|(intro hb;first|exact zk0 hb|(try (replace hb:=zn0 hb)))|((first|apply Br.mk|apply Gd.mk)<;>(intro hb;first|(exfalso;simp only [decide_eq_true_eq,decide_eq_false_iff_not,beq_iff_eq,bne_iff_ne,beq_eq_false_iff_ne,bne_eq_false_iff_eq,ne_eq] at hb;omega)|exact aK2 hb|(simp only [decide_eq_true_eq,decide_eq_false_iff_not,beq_iff_eq,bne_iff_ne,beq_eq_false_iff_ne,bne_eq_false_iff_eq,ne_eq] at hb;first|(exfalso;omega)|skip)|skip))|refine zst ?_|refine zbx ?_ ?_|refine zgx ?_ ?_));(all_goals (try (conv=>whnf)))
   all_goals first|(exfalso;omega)|(exfalso;simp at hb;done)|(exfalso;simp_all;done)|(exact QaV)
 rw [if_neg h5] at hD
 by_cases h6:k=6
 ·rw [if_pos h6] at hD
  subst h6
  by_cases hS:noD S=true
  ·rw [if_pos hS] at hD
   replace hS:(S.toList==(⟨#[]⟩:ByteArray).toList)=true:=hS
   clear q2 q3 q4 q5
   subst hD
   dsimp only [Mc.C,Mc.D,Dk.C,Nk.C] at *
   simp only [Qaf,List.cons_append,List.nil_append] at *
   rw [hnn,hX]
   refine fnW Tryz.func110 ?_
   (repeat' ((conv=>whnf);first|(intro hb;first|exact zk0 hb|(try (replace hb:=zn0 hb)))|((first|apply Br.mk|apply Gd.mk)<;>(intro hb;first|(exfalso;simp only [decide_eq_true_eq,decide_eq_false_iff_not,beq_iff_eq,bne_iff_ne,beq_eq_false_iff_ne,bne_eq_false_iff_eq,ne_eq] at hb;omega)|exact aK2 hb|(simp only [decide_eq_true_eq,decide_eq_false_iff_not,beq_iff_eq,bne_iff_ne,beq_eq_false_iff_ne,bne_eq_false_iff_eq,ne_eq] at hb;first|(exfalso;omega)|skip)|skip))|refine zst ?_|refine zbx ?_ ?_|refine zgx ?_ ?_));(all_goals (try (conv=>whnf)))
   all_goals first|(exfalso;omega)|(exfalso;simp at hb;done)|(exfalso;simp_all;done)|(exact QaV)
  ·rw [if_neg hS] at hD
   replace hS:(S.toList==(⟨#[]⟩:ByteArray).toList)=false:=Bool.eq_false_iff.2 hS
   clear q2 q3 q4 q5
   subst hD
   dsimp only [Mc.C,Mc.D,Dk.C,Nk.C] at *
   simp only [Qaf,List.cons_append,List.nil_append] at *
   rw [hnn,hX]
   refine fnW Tryz.func110 ?_
   (repeat' ((conv=>whnf);first|(intro hb;first|exact zk0 hb|(try (replace hb:=zn0 hb)))|((first|apply Br.mk|apply Gd.mk)<;>(intro hb;first|(exfalso;simp only [decide_eq_true_eq,decide_eq_false_iff_not,beq_iff_eq,bne_iff_ne,beq_eq_false_iff_ne,bne_eq_false_iff_eq,ne_eq] at hb;omega)|exact aK2 hb|(simp only [decide_eq_true_eq,decide_eq_false_iff_not,beq_iff_eq,bne_iff_ne,beq_eq_false_iff_ne,bne_eq_false_iff_eq,ne_eq] at hb;first|(exfalso;omega)|skip)|skip))|refine zst ?_|refine zbx ?_ ?_|refine zgx ?_ ?_));(all_goals (try (conv=>whnf)))
   all_goals first|(exfalso;omega)|(exfalso;simp at hb;done)|(exfalso;simp_all;done)|(exact QaV)
 rw [if_neg h6] at hD
 clear q2 q3 q4 q5
 subst hD
 dsimp only [Mc.C,Mc.D,Dk.C,Nk.C] at *
 simp only [Qaf,List.cons_append,List.nil_append] at *
 rw [hnn,hX]
 refine fnW Tryz.func110 ?_
 (repeat' ((conv=>whnf);first|(intro hb;first|exact zk0 hb|(try (replace hb:=zn0 hb)))|((first|apply Br.mk|apply Gd.mk)<;>(intro hb;first|(exfalso;simp only [decide_eq_true_eq,decide_eq_false_iff_not,beq_iff_eq,bne_iff_ne,beq_eq_false_iff_ne,bne_eq_false_iff_eq,ne_eq] at hb;omega)|exact aK2 hb|(simp only [decide_eq_true_eq,decide_eq_false_iff_not,beq_iff_eq,bne_iff_ne,beq_eq_false_iff_ne,bne_eq_false_iff_eq,ne_eq] at hb;first|(exfalso;omega)|skip)|skip))|refine zst ?_|refine zbx ?_ ?_|refine zgx ?_ ?_));(all_goals (try (conv=>whnf)))
 all_goals first|(exfalso;omega)|(exfalso;simp at hb;done)|(exfalso;simp_all;done)|(exact QaV)
theorem Qgn (M:Mc) (hM:M.ok) (k:Int) (N:Nat) (hN:N<4294967296) (S:ByteArray) (hSz:S.size≤1000000) (ck lg:Nat) (LG:List SV) (hLG:Qau LG=true):Fn Tryz.prog 136 [.s (.ptr 0 0),.agg [.int .i64 k,.int .u32 N,.str S]] [⟨true,1,M.C 1++ [.int .u32 ck,.sl 2 0 lg,.nilsl]⟩,⟨true,1,wsv M.m⟩,⟨false,4,LG⟩]
  (· =⟨.a (.s (.bool (QbA M k N S).2)),[(0,some ⟨true,1,(QbA M k N S).1.C 1++ [.int .u32 ck,.sl 2 0 lg,.nilsl]⟩),(1,some ⟨true,1,wsv (QbA M k N S).1.m⟩)],[]⟩):=by
 have q:=QjH M hM k N hN S hSz ck lg LG hLG
 have hl:(QbA M k N S).1.m.length=M.m.length:=Qf6 M k N S
 have hx2:=(QeK M hM k N hN S).x
 have hc2:=(QeK M hM k N hN S).c
 have hsx:=Qaa M.m
 have hs2:=Qaa (QbA M k N S).1.m
 generalize (QbA M k N S).2=ok at *
 generalize (QbA M k N S).1=M2 at *
 obtain ⟨_,_,_,m',_,_,_,_,d',n',_,_,_,_,_⟩:=M2
 dsimp only at *
 obtain ⟨_,_,_,_,_,_,_,_,_,_,_,_,_,_,_,_,rfl⟩:=Qaq hx2
 obtain ⟨_,_,_,_,_,_,_,_,rfl⟩:=QaJ hc2
 obtain ⟨_,_,_,_,_,_,_,_⟩:=d'
 obtain ⟨_,_,_,_,_,_⟩:=n'
 obtain ⟨hx,hc,hxr,hcr,hpr,hmr,_,hdk,hnk,hdv⟩:=hM
 obtain ⟨x,_,c,m,_,_,_,_,d,n,_,_,_,_,_⟩:=M
 dsimp only at *
 obtain ⟨_,_,_,_,_,_,_,_,_,_,_,_,_,_,_,_,rfl⟩:=Qaq hx
 obtain ⟨_,_,_,_,_,_,_,_,rfl⟩:=QaJ hc
 obtain ⟨_,_,_,_,_,_,_,_⟩:=d
 obtain ⟨_,_,_,_,_,_⟩:=n
 dsimp only [Mc.C,Mc.D,Dk.C,Nk.C,Dk.ok,Nk.ok] at *
 generalize hnn:m.length=nn at *
 generalize hnn2:m'.length=nn2 at *
 generalize hX:wsv m=XX at *
 generalize hX2:wsv m'=X2 at *
 subst hl
 clear hxr hcr hdk hnk hmr hdv hpr
 simp only [Qaf,List.cons_append,List.nil_append,Mc.C,Mc.D,Dk.C,Nk.C,hnn2] at *
 refine fnW Tryz.func136 ?_
 (repeat' ((conv=>whnf);first|(intro hb;first|exact zk3 hb|(try (replace hb:=zn0 hb)))|(refine Qbx q ?_)|refine zst ?_|refine zbx ?_ ?_|refine zgx ?_ ?_|refine eqR ?_));(all_goals (try (conv=>whnf)))
 all_goals first|(exfalso;omega)|(exfalso;simp at hb;done)|(exfalso;simp_all;done)|(exact QaV)
end Go.Proofs.YtjgikeckbeeehaaGreat
