import Derived.Test.YtjgikeckbeeehaaGreatP16
set_option linter.unusedSimpArgs false
set_option linter.unusedVariables false
set_option maxHeartbeats 100000000
set_option maxRecDepth 100000
namespace Go.Proofs.YtjgikeckbeeehaaGreat
open Go Go.RowKit
theorem Qn4 (M:Mc) (hM:M.ok) (p:Int) (v:Nat) (hv:v<4294967296):Fn Tryz.prog 135 [.s (.ptr 0 0),.s (.int .i64 p),.s (.int .u32 v)] [⟨true,1,M.C 1⟩,⟨true,1,wsv M.m⟩]
  (· =⟨.a (.s (oS 2 (Qbj M p v).2)),[(0,some ⟨true,1,(Qbj M p v).1.C 1⟩),(1,some ⟨true,1,wsv (Qbj M p v).1.m⟩)],oR (Qbj M p v).2⟩):=by
 have q3:=Qk1 v
 have q4:=Qe1 M.d hM.dk M.m _ rfl hM.ml hM.mr p v hv M.ct
 have q5:=Qfd M.n hM.nk M.m _ rfl hM.ml hM.mr p v hv M.ct
 have q6:=Qis M.bt M.bg hM.dv.2.2.1 M.m _ rfl hM.ml p v hv
 have h4:=QdC M.d M.m M.m.length p v M.ct
 have h5:=QdF M.n M.m M.m.length p v M.ct
 have hgl:=Qd4 M.m M.bg M.m.length p v
 have hsx:=Qaa M.m
 have hsg:=Qaa (Qhk M.m M.bg M.m.length p v)
 obtain ⟨D,hD⟩:∃ D,Qbj M p v=D:=⟨_,rfl⟩
 rw [hD]
 unfold Qbj at hD
 generalize QbQ M.d M.m M.m.length p v M.ct=Z4 at *
 generalize QbU M.n M.m M.m.length p v M.ct=Z5 at *
 generalize Qlx M.bg M.m.length p v=gb at *
 generalize Qhk M.m M.bg M.m.length p v=gm at *
 obtain ⟨⟨e0,e1,e2,e3,e4,e5,e6,e7⟩,o4⟩:=Z4
 obtain ⟨⟨f0,f1,f2,f3,f4,f5⟩,o5⟩:=Z5
 obtain ⟨hx,hc,hxr,hcr,hpr,hmr,_,hdk,hnk,hdv⟩:=hM
 obtain ⟨_,_,_,m,_,_,_,_,d,n,bt,bg,ct,_,_⟩:=M
 dsimp only at *
 obtain ⟨_,_,_,_,_,_,_,_,_,_,_,_,_,_,_,_,rfl⟩:=Qaq hx
 obtain ⟨_,_,_,_,_,_,_,_,rfl⟩:=QaJ hc
 obtain ⟨_,_,_,_,_,_,_,_⟩:=d
 obtain ⟨_,_,_,_,_,_⟩:=n
 dsimp only [Mc.C,Mc.D,Dk.C,Nk.C,Dk.ok,Nk.ok] at *
 generalize hnn:m.length=nn at *
 generalize hX:wsv m=XX at *
 generalize hG:wsv gm=GG at *
 clear hxr hcr hdk hnk hmr hdv hpr
 by_cases h1:p=0
 ·rw [if_pos h1] at hD
  subst h1 hD
  clear q3 q4 q5 q6 h4 h5
  dsimp only [oS,oR]
  rw [hnn,hX]
  refine fnW Tryz.func135 ?_
  (repeat' ((conv=>whnf);first|(intro hb;first|exact zk3 hb|(try (replace hb:=zn0 hb)))|((with_reducible apply Ge.mk (α:=List Int)); · exact rfl)|refine zst ?_|refine zbx ?_ ?_|refine zgx ?_ ?_|refine eqR ?_));(all_goals (try (conv=>whnf)))
  all_goals first|(exfalso;simp only [decide_eq_true_eq,decide_eq_false_iff_not,beq_iff_eq,beq_eq_false_iff_ne,ne_eq] at hb;omega)|(exfalso;omega)|(exfalso;simp at hb;done)|(exact QgO)|(exfalso;simp only [decide_eq_true_eq,decide_eq_false_iff_not,beq_iff_eq,beq_eq_false_iff_ne,ne_eq] at *;omega)
 rw [if_neg h1] at hD
 by_cases h2:p≤2
 ·rw [if_pos h2] at hD
  subst hD
  clear q3 q4 q5 q6 h4 h5
  dsimp only [oS,oR]
  rw [hnn,hX]
  refine fnW Tryz.func135 ?_
  (repeat' ((conv=>whnf);first|(intro hb;first|exact zk3 hb|(try (replace hb:=zn0 hb)))|refine zst ?_|refine zbx ?_ ?_|refine zgx ?_ ?_|refine eqR ?_));(all_goals (try (conv=>whnf)))
  all_goals first|(exfalso;simp only [decide_eq_true_eq,decide_eq_false_iff_not,beq_iff_eq,beq_eq_false_iff_ne,ne_eq] at hb;omega)|(exfalso;omega)|(exfalso;simp at hb;done)|(exact QbS)|(exfalso;simp only [decide_eq_true_eq,decide_eq_false_iff_not,beq_iff_eq,beq_eq_false_iff_ne,ne_eq] at *;omega)
 rw [if_neg h2] at hD
 by_cases h3:p=3
 ·rw [if_pos h3] at hD
  subst h3 hD
  clear q4 q5 q6 h4 h5
  dsimp only [oS,oR]
  rw [hnn,hX]
  unfold Qw0 at q3
  by_cases hv0:(v:Int)=0
  ·rw [if_pos hv0] at q3
   rw [decide_eq_false (not_not_intro hv0)]
   obtain rfl:v=0:=by omega
   refine fnW Tryz.func135 ?_
   (repeat' ((conv=>whnf);first|(intro hb;first|exact zk3 hb|(try (replace hb:=zn0 hb)))|(refine zpu q3 ?_)|refine zst ?_|refine zbx ?_ ?_|refine zgx ?_ ?_|refine eqR ?_));(all_goals (try (conv=>whnf)))
   all_goals first|(exfalso;simp only [decide_eq_true_eq,decide_eq_false_iff_not,beq_iff_eq,beq_eq_false_iff_ne,ne_eq] at hb;omega)|(exfalso;omega)|(exfalso;simp at hb;done)|(exact QbS)|(exfalso;simp only [decide_eq_true_eq,decide_eq_false_iff_not,beq_iff_eq,beq_eq_false_iff_ne,ne_eq] at *;omega)
  ·rw [if_neg hv0] at q3
   rw [decide_eq_true hv0]
   refine fnW Tryz.func135 ?_
   (repeat' ((conv=>whnf);first|(intro hb;first|exact zk3 hb|(try (replace hb:=zn0 hb)))|(refine zpu q3 ?_)|refine zst ?_|refine zbx ?_ ?_|refine zgx ?_ ?_|refine eqR ?_));(all_goals (try (conv=>whnf)))
   all_goals first|(exfalso;simp only [decide_eq_true_eq,decide_eq_false_iff_not,beq_iff_eq,beq_eq_false_iff_ne,ne_eq] at hb;omega)|(exfalso;omega)|(exfalso;simp at hb;done)|(exact QbS)|(exfalso;simp only [decide_eq_true_eq,decide_eq_false_iff_not,beq_iff_eq,beq_eq_false_iff_ne,ne_eq] at *;omega)
 rw [if_neg h3] at hD
 by_cases h6:p≤6
 ·rw [if_pos h6] at hD
  subst hD
  clear q3 q5 q6 h5
  dsimp only [Mc.C,Mc.D,Dk.C,Nk.C] at *
  rw [hnn,hX]
  cases o4 with
  | none =>
   dsimp only [oS,oR] at *
   refine fnW Tryz.func135 ?_
   (repeat' ((conv=>whnf);first|(intro hb;first|exact zk3 hb|(try (replace hb:=zn0 hb)))|(refine Qay q4 ?_)|refine zst ?_|refine zbx ?_ ?_|refine zgx ?_ ?_|refine eqR ?_));(all_goals (try (conv=>whnf)))
   all_goals first|(exfalso;simp only [decide_eq_true_eq,decide_eq_false_iff_not,beq_iff_eq,beq_eq_false_iff_ne,ne_eq] at hb;omega)|(exfalso;omega)|(exfalso;simp at hb;done)|(exact QbS)|(exfalso;simp only [decide_eq_true_eq,decide_eq_false_iff_not,beq_iff_eq,beq_eq_false_iff_ne,ne_eq] at *;omega)
  | some l =>
   obtain ⟨hl4,hls,hlk⟩:=h4 l rfl
   dsimp only [oS,oR] at *
   refine fnW Tryz.func135 ?_
   (repeat' ((conv=>whnf);first|(intro hb;first|exact zk3 hb|(try (replace hb:=zn0 hb)))|(refine Qay q4 ?_)|refine zst ?_|refine zbx ?_ ?_|refine zgx ?_ ?_|refine eqR ?_));(all_goals (try (conv=>whnf)))
   all_goals first|(exfalso;simp only [decide_eq_true_eq,decide_eq_false_iff_not,beq_iff_eq,beq_eq_false_iff_ne,ne_eq] at hb;omega)|(exfalso;omega)|(exfalso;simp at hb;done)|(exact QgO)|(exfalso;simp only [decide_eq_true_eq,decide_eq_false_iff_not,beq_iff_eq,beq_eq_false_iff_ne,ne_eq] at *;omega)
 rw [if_neg h6] at hD
 by_cases h9:p≤9
 ·rw [if_pos h9] at hD
  subst hD
  clear q3 q4 q6 h4
  dsimp only [Mc.C,Mc.D,Dk.C,Nk.C] at *
  rw [hnn,hX]
  cases o5 with
  | none =>
   dsimp only [oS,oR] at *
   refine fnW Tryz.func135 ?_
   (repeat' ((conv=>whnf);first|(intro hb;first|exact zk3 hb|(try (replace hb:=zn0 hb)))|(refine Qay q5 ?_)|refine zst ?_|refine zbx ?_ ?_|refine zgx ?_ ?_|refine eqR ?_));(all_goals (try (conv=>whnf)))
   all_goals first|(exfalso;simp only [decide_eq_true_eq,decide_eq_false_iff_not,beq_iff_eq,beq_eq_false_iff_ne,ne_eq] at hb;omega)|(exfalso;omega)|(exfalso;simp at hb;done)|(exact QbS)|(exfalso;simp only [decide_eq_true_eq,decide_eq_false_iff_not,beq_iff_eq,beq_eq_false_iff_ne,ne_eq] at *;omega)
  | some l =>
   obtain ⟨hl4,hls,hlk⟩:=h5 l rfl
   dsimp only [oS,oR] at *
   refine fnW Tryz.func135 ?_
   (repeat' ((conv=>whnf);first|(intro hb;first|exact zk3 hb|(try (replace hb:=zn0 hb)))|(refine Qay q5 ?_)|refine zst ?_|refine zbx ?_ ?_|refine zgx ?_ ?_|refine eqR ?_));(all_goals (try (conv=>whnf)))
   all_goals first|(exfalso;simp only [decide_eq_true_eq,decide_eq_false_iff_not,beq_iff_eq,beq_eq_false_iff_ne,ne_eq] at hb;omega)|(exfalso;omega)|(exfalso;simp at hb;done)|(exact QgO)|(exfalso;simp only [decide_eq_true_eq,decide_eq_false_iff_not,beq_iff_eq,beq_eq_false_iff_ne,ne_eq] at *;omega)
 rw [if_neg h9] at hD
 subst hD
 clear q3 q4 q5 h4 h5
 dsimp only [Mc.C,Mc.D,Dk.C,Nk.C] at *
 rw [hG,hgl]
 dsimp only [oS,oR]
 refine fnW Tryz.func135 ?_
 (repeat' ((conv=>whnf);first|(intro hb;first|exact zk3 hb|(try (replace hb:=zn0 hb)))|(refine QbY q6 ?_)|refine zst ?_|refine zbx ?_ ?_|refine zgx ?_ ?_|refine eqR ?_));(all_goals (try (conv=>whnf)))
 all_goals first|(exfalso;simp only [decide_eq_true_eq,decide_eq_false_iff_not,beq_iff_eq,beq_eq_false_iff_ne,ne_eq] at hb;omega)|(exfalso;omega)|(exfalso;simp at hb;done)|(exact QbS)|(exfalso;simp only [decide_eq_true_eq,decide_eq_false_iff_not,beq_iff_eq,beq_eq_false_iff_ne,ne_eq] at *;omega)
theorem Qpa (M:Mc) (p:Int) (v:Nat):Qbj M p v=({ M with m:=(Qbj M p v).1.m,ta:=(Qbj M p v).1.ta,td:=(Qbj M p v).1.td,tf:=(Qbj M p v).1.tf,d:=(Qbj M p v).1.d,n:=(Qbj M p v).1.n,bg:=(Qbj M p v).1.bg },(Qbj M p v).2):=by
 unfold Qbj
 repeat' split
 all_goals rfl
theorem Qrx (M:Mc) (p:Int):inM M p= { M with ks:=(inM M p).ks }:=by
 unfold inM
 split<;>rfl
theorem Qo7 (M:Mc) (hM:M.ok) (w:Nat) (hw:w<4294967296):Fn Tryz.prog 113 [.s (.ptr 0 0),.s (.int .u32 w)] [⟨true,1,M.C 1⟩,⟨true,1,wsv M.m⟩]
  (· =⟨.a (.s (oS 2 (Qb8 M w).2)),[(0,some ⟨true,1,(Qb8 M w).1.C 1⟩),(1,some ⟨true,1,wsv (Qb8 M w).1.m⟩)],oR (Qb8 M w).2⟩):=by
 have q0:=QeR M hM
 have q1:=QkU M.x (QfA M) (Qgx M) M.m _ hM.x (QcS M hM) (Qfm M hM) (QfG M hM) rfl hM.mr (by have:=hM.ml;omega) hM.xr _ rfl
 have hS:=Qd7 M hM
 have hQ:=QcU M hM
 obtain ⟨K,P,R,V,he,hR,hV⟩:=hQ.ef
 have i1:=QwP (QaG M) hS P w
 have i2:=Qn4 (QaG M) hS P V hV
 have i3:=Qc9 (QaG M).x (QaG M).pc (QaG M).c R (inV (QaG M) P w) hS.x hS.c hR
 have hX2:=Qap (QaG M).x R (inV (QaG M) P w)
 have hO:=QfL (QaG M) P V
 have hOl:=QfC (QaG M) P V
 have hOe:=Qpa (QaG M) P V
 have hIe:=Qrx (QaG M) P
 have hct1:IntKind.u64.wrap ((M.ct:Int)+1)=(((M.ct+1)%18446744073709551616:Nat):Int):=by rw [QjF];omega
 obtain ⟨D,hD⟩:∃ D,Qb8 M w=D:=⟨_,rfl⟩
 rw [hD]
 unfold Qb8 at hD
 rw [he] at hD
 change (if K=1 then (Qdh { inM (QaG M) P with x:=QaE (QaG M).x R (inV (QaG M) P w) },none) else if K=2 then (Qdh (Qbj (QaG M) P V).1,(Qbj (QaG M) P V).2) else if K=3 then (Qdh { QaG M with wt:=true },none) else if K=4 then (Qdh { QaG M with ht:=true },none) else (Qdh (QaG M),none))=D at hD
 change Fn _ _ _ _ (· =⟨.tup [.agg (Qao (Qbb M).x (Qbb M).pc (Qbb M).c),.agg (Qbb M).e],[(0,some ⟨true,1,wsv (Qbb M).m⟩)],[]⟩) at q1
 rw [he] at q1
 have h1:=hQ.xl
 have h2:=hQ.cl
 have h3:=hQ.ml
 have h4:=QcS M hM
 have hsx:=Qaa M.m
 have hsm:=Qaa (Qbb M).m
 have hm2:(QaG M).m.length=M.m.length:=hQ.ml
 rw [hOe] at hOl hD i2
 rw [hIe] at i1 hD
 generalize (inM (QaG M) P).ks=k2 at *
 generalize hsX:QaE (QaG M).x R (inV (QaG M) P w)=X2 at *
 generalize (Qbj (QaG M) P V).2=O2 at *
 generalize (Qbj (QaG M) P V).1.m=m2 at *
 generalize (Qbj (QaG M) P V).1.ta=ta2 at *
 generalize (Qbj (QaG M) P V).1.td=td2 at *
 generalize (Qbj (QaG M) P V).1.tf=tf2 at *
 generalize (Qbj (QaG M) P V).1.d=d2 at *
 generalize (Qbj (QaG M) P V).1.n=n2 at *
 generalize (Qbj (QaG M) P V).1.bg=bg2 at *
 have hs2:=Qaa m2
 clear hOe hIe hS
 unfold QaG at *
 generalize inV _ P w=v1 at i1 i3 hsX
 generalize Qbb M=Q at *
 obtain ⟨qx,qpc,qc,qm,qe⟩:=Q
 dsimp only at *
 subst he
 clear hQ
 have hX3:X2.length=16:=by rw [hX2];exact h1
 generalize QfA M=ip at *
 generalize Qgx M=ic at *
 clear hsX hX2
 obtain ⟨_,_,_,_,_,_,_,_,_,_,_,_,_,_,_,_,rfl⟩:=Qaq h1
 obtain ⟨_,_,_,_,_,_,_,_,rfl⟩:=QaJ h2
 obtain ⟨_,_,_,_,_,_,_,_,_,_,_,_,_,_,_,_,rfl⟩:=Qaq hX3
 obtain ⟨_,_,_,_,_,_,_,_,rfl⟩:=QaJ h4
 obtain ⟨_,_,_,_,_,_,_,_⟩:=d2
 obtain ⟨_,_,_,_,_,_⟩:=n2
 obtain ⟨hx,hc,hxr,hcr,hpr,hmr,_,hdk,hnk,hdv⟩:=hM
 obtain ⟨x,pc,c,m,ks,ta,td,tf,d,n,_,bg,ct,wt,ht⟩:=M
 dsimp only at *
 obtain ⟨_,_,_,_,_,_,_,_,_,_,_,_,_,_,_,_,rfl⟩:=Qaq hx
 obtain ⟨_,_,_,_,_,_,_,_,rfl⟩:=QaJ hc
 obtain ⟨_,_,d2,_,_,_,_,_⟩:=d
 obtain ⟨_,_,n2,_,_,_⟩:=n
 dsimp only [Mc.C,Mc.D,Dk.C,Nk.C,Dk.ok,Nk.ok] at *
 unfold efS at *
 generalize hnn:m.length=nn at *
 generalize hXX:wsv m=XX at *
 generalize hQQ:wsv qm=QQ at *
 generalize h22:wsv m2=M2 at *
 generalize hct2:(ct+1)%18446744073709551616=ct2 at *
 clear hxr hcr hdk hnk hmr hdv hpr
 by_cases k1:K=1
 ·rw [if_pos k1] at hD
  subst k1 hD
  clear i2 hO hOl
  dsimp only [oS,oR,Qdh,Mc.C,Mc.D,Dk.C,Nk.C] at *
  simp only [Qaf,List.cons_append,List.nil_append] at *
  rw [hct2]
  try rw [h3] at *
  try rw [hQQ]
  refine fnW Tryz.func113 ?_
  (repeat' ((conv=>whnf);first|(intro hb;first|exact zk3 hb|(try (replace hb:=zn0 hb)))|(refine Qay q0 ?_)|(refine QbY q1 ?_)|((with_reducible apply Vl.mk (α:=List SV)); · (with_reducible refine QdD ?_);exact rfl)|(with_reducible refine zv hct1 ?_)|(refine Qip i1 ?_)|(refine zpu i3 ?_)|refine zst ?_|refine zbx ?_ ?_|refine zgx ?_ ?_|refine eqR ?_));(all_goals (try (conv=>whnf)))
  all_goals first|(exfalso;simp only [decide_eq_true_eq,decide_eq_false_iff_not,beq_iff_eq,beq_eq_false_iff_ne,ne_eq] at hb;omega)|(exfalso;omega)|(exfalso;simp at hb;done)|(exact QbS)
 rw [if_neg k1] at hD
 by_cases k2':K=2
 ·rw [if_pos k2'] at hD
  subst k2' hD
  clear i1 i3
  cases O2 with
  | none =>
   dsimp only [oS,oR,Qdh,Mc.C,Mc.D,Dk.C,Nk.C] at *
   simp only [Qaf,List.cons_append,List.nil_append] at *
   rw [hct2]
   rw [hOl.trans h3] at i2 ⊢
   rw [h3] at i2
   try rw [h22]
   refine fnW Tryz.func113 ?_
   (repeat' ((conv=>whnf);first|(intro hb;first|exact zk3 hb|(try (replace hb:=zn0 hb)))|(refine Qay q0 ?_)|(refine QbY q1 ?_)|((with_reducible apply Vl.mk (α:=List SV)); · (with_reducible refine QdD ?_);exact rfl)|(with_reducible refine zv hct1 ?_)|(refine Qip i2 ?_)|refine zst ?_|refine zbx ?_ ?_|refine zgx ?_ ?_|refine eqR ?_));(all_goals (try (conv=>whnf)))
   all_goals first|(exfalso;simp only [decide_eq_true_eq,decide_eq_false_iff_not,beq_iff_eq,beq_eq_false_iff_ne,ne_eq] at hb;omega)|(exfalso;omega)|(exfalso;simp at hb;done)|(exact QbS)
  | some l =>
   obtain ⟨hl4,hls,hlk⟩:=hO l rfl
   dsimp only [oS,oR,Qdh,Mc.C,Mc.D,Dk.C,Nk.C] at *
   simp only [Qaf,List.cons_append,List.nil_append] at *
   rw [hct2]
   rw [hOl.trans h3] at i2 ⊢
   rw [h3] at i2
   try rw [h22]
   refine fnW Tryz.func113 ?_
   (repeat' ((conv=>whnf);first|(intro hb;first|exact zk3 hb|(try (replace hb:=zn0 hb)))|(refine Qay q0 ?_)|(refine QbY q1 ?_)|((with_reducible apply Vl.mk (α:=List SV)); · (with_reducible refine QdD ?_);exact rfl)|(with_reducible refine zv hct1 ?_)|(refine Qip i2 ?_)|refine zst ?_|refine zbx ?_ ?_|refine zgx ?_ ?_|refine eqR ?_));(all_goals (try (conv=>whnf)))
   all_goals first|(exfalso;simp only [decide_eq_true_eq,decide_eq_false_iff_not,beq_iff_eq,beq_eq_false_iff_ne,ne_eq] at hb;omega)|(exfalso;omega)|(exfalso;simp at hb;done)|(exact QgO)
 rw [if_neg k2'] at hD
 by_cases k3:K=3
 ·rw [if_pos k3] at hD
  subst k3 hD
  clear i1 i2 i3 hO hOl
  dsimp only [oS,oR,Qdh,Mc.C,Mc.D,Dk.C,Nk.C] at *
  simp only [Qaf,List.cons_append,List.nil_append] at *
  rw [hct2]
  try rw [h3] at *
  try rw [hQQ]
  refine fnW Tryz.func113 ?_
  (repeat' ((conv=>whnf);first|(intro hb;first|exact zk3 hb|(try (replace hb:=zn0 hb)))|(refine Qay q0 ?_)|(refine QbY q1 ?_)|((with_reducible apply Vl.mk (α:=List SV)); · (with_reducible refine QdD ?_);exact rfl)|(with_reducible refine zv hct1 ?_)|refine zst ?_|refine zbx ?_ ?_|refine zgx ?_ ?_|refine eqR ?_));(all_goals (try (conv=>whnf)))
  all_goals first|(exfalso;simp only [decide_eq_true_eq,decide_eq_false_iff_not,beq_iff_eq,beq_eq_false_iff_ne,ne_eq] at hb;omega)|(exfalso;omega)|(exfalso;simp at hb;done)|(exact QbS)
 rw [if_neg k3] at hD
 by_cases k4:K=4
 ·rw [if_pos k4] at hD
  subst k4 hD
  clear i1 i2 i3 hO hOl
  dsimp only [oS,oR,Qdh,Mc.C,Mc.D,Dk.C,Nk.C] at *
  simp only [Qaf,List.cons_append,List.nil_append] at *
  rw [hct2]
  try rw [h3] at *
  try rw [hQQ]
  refine fnW Tryz.func113 ?_
  (repeat' ((conv=>whnf);first|(intro hb;first|exact zk3 hb|(try (replace hb:=zn0 hb)))|(refine Qay q0 ?_)|(refine QbY q1 ?_)|((with_reducible apply Vl.mk (α:=List SV)); · (with_reducible refine QdD ?_);exact rfl)|(with_reducible refine zv hct1 ?_)|refine zst ?_|refine zbx ?_ ?_|refine zgx ?_ ?_|refine eqR ?_));(all_goals (try (conv=>whnf)))
  all_goals first|(exfalso;simp only [decide_eq_true_eq,decide_eq_false_iff_not,beq_iff_eq,beq_eq_false_iff_ne,ne_eq] at hb;omega)|(exfalso;omega)|(exfalso;simp at hb;done)|(exact QbS)
 rw [if_neg k4] at hD
 subst hD
 clear i1 i2 i3 hO hOl
 dsimp only [oS,oR,Qdh,Mc.C,Mc.D,Dk.C,Nk.C] at *
 simp only [Qaf,List.cons_append,List.nil_append] at *
 rw [hct2]
 try rw [h3] at *
 try rw [hQQ]
 refine fnW Tryz.func113 ?_
 (repeat' ((conv=>whnf);first|(intro hb;first|exact zk3 hb|(try (replace hb:=zn0 hb)))|(refine Qay q0 ?_)|(refine QbY q1 ?_)|((with_reducible apply Vl.mk (α:=List SV)); · (with_reducible refine QdD ?_);exact rfl)|(with_reducible refine zv hct1 ?_)|refine zst ?_|refine zbx ?_ ?_|refine zgx ?_ ?_|refine eqR ?_));(all_goals (try (conv=>whnf)))
 all_goals first|(exfalso;simp only [decide_eq_true_eq,decide_eq_false_iff_not,beq_iff_eq,beq_eq_false_iff_ne,ne_eq] at hb;omega)|(exfalso;omega)|(exfalso;simp at hb;done)|(exact QbS)
end Go.Proofs.YtjgikeckbeeehaaGreat
