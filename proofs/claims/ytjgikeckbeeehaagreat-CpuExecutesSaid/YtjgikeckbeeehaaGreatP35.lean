import Derived.Test.YtjgikeckbeeehaaGreatP34
set_option linter.unusedSimpArgs false
set_option linter.unusedVariables false
set_option maxHeartbeats 100000000
set_option maxRecDepth 100000
namespace Go.Proofs.YtjgikeckbeeehaaGreat
open Go Go.RowKit
def ks4:List SK:= [.int,.int,.int,.int]
theorem QfN (K P:Int) (R V:Nat):Qar ks4 [.int .i64 K,.int .i64 P,.int .i64 (R:Nat),.int .u32 (V:Nat)] [.int .i64 K,.int .i64 P,.int .i64 (R:Nat),.int .u32 (V:Nat)]=some true:=by simp [ks4,Qar,eqS,kEq]
theorem QfT (x1 x2 x3 x4 x5 x6 x7 x8 x9 x10 x11 x12 x13 x14 x15 pc c0 c1 c2 c3 c4 c5 c6 c7:Nat) (m:List Nat) (hxr:∀ y∈ [0,x1,x2,x3,x4,x5,x6,x7,x8,x9,x10,x11,x12,x13,x14,x15],y<4294967296) (hcr:∀ y∈ [c0,c1,c2,c3,c4,c5,c6,c7],y<4294967296) (hpr:pc<4294967296) (hmr:∀ y∈m,y<4294967296) (hml:m.length≤1000000) (va:Nat) (hva:va<4294967296) (sz ac:Int) :
  ∃ (A:Nat) (rk:Int) (rm:List Nat) (W:Nat) (fk:Int) (fm:List Nat) (y1 y2 y3 y4 y5 y6 y7 y8 y9 y10 y11 y12 y13 y14 y15 q d0 d1 d2 d3 d4 d5 d6 d7:Nat) (qm:List Nat) (K P:Int) (R V:Nat),rm.length=m.length∧fm.length=m.length∧qm.length=m.length ∧
   (Fn Tryz.prog 9 [.agg [.int .u32 0,.int .u32 (x1:Nat),.int .u32 (x2:Nat),.int .u32 (x3:Nat),.int .u32 (x4:Nat),.int .u32 (x5:Nat),.int .u32 (x6:Nat),.int .u32 (x7:Nat),.int .u32 (x8:Nat),.int .u32 (x9:Nat),.int .u32 (x10:Nat),.int .u32 (x11:Nat),.int .u32 (x12:Nat),.int .u32 (x13:Nat),.int .u32 (x14:Nat),.int .u32 (x15:Nat),.int .u32 (pc:Nat),.int .u32 (c0:Nat),.int .u32 (c1:Nat),.int .u32 (c2:Nat),.int .u32 (c3:Nat),.int .u32 (c4:Nat),.int .u32 (c5:Nat),.int .u32 (c6:Nat),.int .u32 (c7:Nat)],.s (.sl 0 0 m.length),.s (.int .u32 (va:Nat)),.s (.int .i64 sz),.s (.int .i64 ac)] [⟨false,1,wsv m⟩] (· =⟨.tup [.s (.int .u32 (A:Nat)),.s (.sl 1 0 m.length),.s (.int .i64 rk)],[],[⟨true,1,wsv rm⟩]⟩) ∧
    Fn Tryz.prog 10 [.agg [.int .u32 0,.int .u32 (x1:Nat),.int .u32 (x2:Nat),.int .u32 (x3:Nat),.int .u32 (x4:Nat),.int .u32 (x5:Nat),.int .u32 (x6:Nat),.int .u32 (x7:Nat),.int .u32 (x8:Nat),.int .u32 (x9:Nat),.int .u32 (x10:Nat),.int .u32 (x11:Nat),.int .u32 (x12:Nat),.int .u32 (x13:Nat),.int .u32 (x14:Nat),.int .u32 (x15:Nat),.int .u32 (pc:Nat),.int .u32 (c0:Nat),.int .u32 (c1:Nat),.int .u32 (c2:Nat),.int .u32 (c3:Nat),.int .u32 (c4:Nat),.int .u32 (c5:Nat),.int .u32 (c6:Nat),.int .u32 (c7:Nat)],.s (.sl 0 0 m.length),.s (.int .u32 (va:Nat)),.s (.int .i64 sz),.s (.int .i64 ac)] [⟨false,1,wsv m⟩] (· =⟨.tup [.s (.int .u32 (A:Nat)),.s (.sl 1 0 m.length),.s (.int .i64 rk)],[],[⟨true,1,wsv rm⟩]⟩)) ∧
   (Fn Tryz.prog 12 [.agg [.int .u32 0,.int .u32 (x1:Nat),.int .u32 (x2:Nat),.int .u32 (x3:Nat),.int .u32 (x4:Nat),.int .u32 (x5:Nat),.int .u32 (x6:Nat),.int .u32 (x7:Nat),.int .u32 (x8:Nat),.int .u32 (x9:Nat),.int .u32 (x10:Nat),.int .u32 (x11:Nat),.int .u32 (x12:Nat),.int .u32 (x13:Nat),.int .u32 (x14:Nat),.int .u32 (x15:Nat),.int .u32 (pc:Nat),.int .u32 (c0:Nat),.int .u32 (c1:Nat),.int .u32 (c2:Nat),.int .u32 (c3:Nat),.int .u32 (c4:Nat),.int .u32 (c5:Nat),.int .u32 (c6:Nat),.int .u32 (c7:Nat)],.s (.sl 0 0 m.length)] [⟨false,1,wsv m⟩] (· =⟨.tup [.s (.int .u32 (W:Nat)),.s (.sl 1 0 m.length),.s (.int .i64 fk)],[],[⟨true,1,wsv fm⟩]⟩) ∧
    Fn Tryz.prog 13 [.agg [.int .u32 0,.int .u32 (x1:Nat),.int .u32 (x2:Nat),.int .u32 (x3:Nat),.int .u32 (x4:Nat),.int .u32 (x5:Nat),.int .u32 (x6:Nat),.int .u32 (x7:Nat),.int .u32 (x8:Nat),.int .u32 (x9:Nat),.int .u32 (x10:Nat),.int .u32 (x11:Nat),.int .u32 (x12:Nat),.int .u32 (x13:Nat),.int .u32 (x14:Nat),.int .u32 (x15:Nat),.int .u32 (pc:Nat),.int .u32 (c0:Nat),.int .u32 (c1:Nat),.int .u32 (c2:Nat),.int .u32 (c3:Nat),.int .u32 (c4:Nat),.int .u32 (c5:Nat),.int .u32 (c6:Nat),.int .u32 (c7:Nat)],.s (.sl 0 0 m.length)] [⟨false,1,wsv m⟩] (· =⟨.tup [.s (.int .u32 (W:Nat)),.s (.sl 1 0 m.length),.s (.int .i64 fk)],[],[⟨true,1,wsv fm⟩]⟩)) ∧
   (Fn Tryz.prog 14 [.agg [.int .u32 0,.int .u32 (x1:Nat),.int .u32 (x2:Nat),.int .u32 (x3:Nat),.int .u32 (x4:Nat),.int .u32 (x5:Nat),.int .u32 (x6:Nat),.int .u32 (x7:Nat),.int .u32 (x8:Nat),.int .u32 (x9:Nat),.int .u32 (x10:Nat),.int .u32 (x11:Nat),.int .u32 (x12:Nat),.int .u32 (x13:Nat),.int .u32 (x14:Nat),.int .u32 (x15:Nat),.int .u32 (pc:Nat),.int .u32 (c0:Nat),.int .u32 (c1:Nat),.int .u32 (c2:Nat),.int .u32 (c3:Nat),.int .u32 (c4:Nat),.int .u32 (c5:Nat),.int .u32 (c6:Nat),.int .u32 (c7:Nat)],.s (.sl 0 0 m.length)] [⟨false,1,wsv m⟩] (· =⟨.tup [.agg [.int .u32 0,.int .u32 (y1:Nat),.int .u32 (y2:Nat),.int .u32 (y3:Nat),.int .u32 (y4:Nat),.int .u32 (y5:Nat),.int .u32 (y6:Nat),.int .u32 (y7:Nat),.int .u32 (y8:Nat),.int .u32 (y9:Nat),.int .u32 (y10:Nat),.int .u32 (y11:Nat),.int .u32 (y12:Nat),.int .u32 (y13:Nat),.int .u32 (y14:Nat),.int .u32 (y15:Nat),.int .u32 (q:Nat),.int .u32 (d0:Nat),.int .u32 (d1:Nat),.int .u32 (d2:Nat),.int .u32 (d3:Nat),.int .u32 (d4:Nat),.int .u32 (d5:Nat),.int .u32 (d6:Nat),.int .u32 (d7:Nat)],.s (.sl 1 0 m.length),.agg [.int .i64 K,.int .i64 P,.int .i64 (R:Nat),.int .u32 (V:Nat)]],[],[⟨true,1,wsv qm⟩]⟩) ∧
    Fn Tryz.prog 15 [.agg [.int .u32 0,.int .u32 (x1:Nat),.int .u32 (x2:Nat),.int .u32 (x3:Nat),.int .u32 (x4:Nat),.int .u32 (x5:Nat),.int .u32 (x6:Nat),.int .u32 (x7:Nat),.int .u32 (x8:Nat),.int .u32 (x9:Nat),.int .u32 (x10:Nat),.int .u32 (x11:Nat),.int .u32 (x12:Nat),.int .u32 (x13:Nat),.int .u32 (x14:Nat),.int .u32 (x15:Nat),.int .u32 (pc:Nat),.int .u32 (c0:Nat),.int .u32 (c1:Nat),.int .u32 (c2:Nat),.int .u32 (c3:Nat),.int .u32 (c4:Nat),.int .u32 (c5:Nat),.int .u32 (c6:Nat),.int .u32 (c7:Nat)],.s (.sl 0 0 m.length)] [⟨false,1,wsv m⟩] (· =⟨.tup [.agg [.int .u32 0,.int .u32 (y1:Nat),.int .u32 (y2:Nat),.int .u32 (y3:Nat),.int .u32 (y4:Nat),.int .u32 (y5:Nat),.int .u32 (y6:Nat),.int .u32 (y7:Nat),.int .u32 (y8:Nat),.int .u32 (y9:Nat),.int .u32 (y10:Nat),.int .u32 (y11:Nat),.int .u32 (y12:Nat),.int .u32 (y13:Nat),.int .u32 (y14:Nat),.int .u32 (y15:Nat),.int .u32 (q:Nat),.int .u32 (d0:Nat),.int .u32 (d1:Nat),.int .u32 (d2:Nat),.int .u32 (d3:Nat),.int .u32 (d4:Nat),.int .u32 (d5:Nat),.int .u32 (d6:Nat),.int .u32 (d7:Nat)],.s (.sl 1 0 m.length),.agg [.int .i64 K,.int .i64 P,.int .i64 (R:Nat),.int .u32 (V:Nat)]],[],[⟨true,1,wsv qm⟩]⟩)) ∧
   Qar Qm3 [.int .u32 0,.int .u32 (y1:Nat),.int .u32 (y2:Nat),.int .u32 (y3:Nat),.int .u32 (y4:Nat),.int .u32 (y5:Nat),.int .u32 (y6:Nat),.int .u32 (y7:Nat),.int .u32 (y8:Nat),.int .u32 (y9:Nat),.int .u32 (y10:Nat),.int .u32 (y11:Nat),.int .u32 (y12:Nat),.int .u32 (y13:Nat),.int .u32 (y14:Nat),.int .u32 (y15:Nat),.int .u32 (q:Nat),.int .u32 (d0:Nat),.int .u32 (d1:Nat),.int .u32 (d2:Nat),.int .u32 (d3:Nat),.int .u32 (d4:Nat),.int .u32 (d5:Nat),.int .u32 (d6:Nat),.int .u32 (d7:Nat)] [.int .u32 0,.int .u32 (y1:Nat),.int .u32 (y2:Nat),.int .u32 (y3:Nat),.int .u32 (y4:Nat),.int .u32 (y5:Nat),.int .u32 (y6:Nat),.int .u32 (y7:Nat),.int .u32 (y8:Nat),.int .u32 (y9:Nat),.int .u32 (y10:Nat),.int .u32 (y11:Nat),.int .u32 (y12:Nat),.int .u32 (y13:Nat),.int .u32 (y14:Nat),.int .u32 (y15:Nat),.int .u32 (q:Nat),.int .u32 (d0:Nat),.int .u32 (d1:Nat),.int .u32 (d2:Nat),.int .u32 (d3:Nat),.int .u32 (d4:Nat),.int .u32 (d5:Nat),.int .u32 (d6:Nat),.int .u32 (d7:Nat)]=some true:=by
 have r1:=Qce [0,x1,x2,x3,x4,x5,x6,x7,x8,x9,x10,x11,x12,x13,x14,x15] pc [c0,c1,c2,c3,c4,c5,c6,c7] m m.length va sz ac rfl rfl hcr rfl hmr (by omega) hva
 have r2:=Qic [0,x1,x2,x3,x4,x5,x6,x7,x8,x9,x10,x11,x12,x13,x14,x15] pc [c0,c1,c2,c3,c4,c5,c6,c7] m m.length va sz ac rfl rfl hcr rfl hmr (by omega) hva
 have f1:=Qg4 [0,x1,x2,x3,x4,x5,x6,x7,x8,x9,x10,x11,x12,x13,x14,x15] pc [c0,c1,c2,c3,c4,c5,c6,c7] m m.length rfl rfl hcr hpr rfl hmr (by omega)
 have f2:=Qk9 [0,x1,x2,x3,x4,x5,x6,x7,x8,x9,x10,x11,x12,x13,x14,x15] pc [c0,c1,c2,c3,c4,c5,c6,c7] m m.length rfl rfl hcr hpr rfl hmr (by omega)
 have e1:=QiL [0,x1,x2,x3,x4,x5,x6,x7,x8,x9,x10,x11,x12,x13,x14,x15] pc [c0,c1,c2,c3,c4,c5,c6,c7] m m.length rfl rfl hcr hpr rfl hmr (by omega) hxr _ rfl
 have e2:=Qps [0,x1,x2,x3,x4,x5,x6,x7,x8,x9,x10,x11,x12,x13,x14,x15] pc [c0,c1,c2,c3,c4,c5,c6,c7] m m.length rfl rfl hcr hpr rfl hmr (by omega) hxr _ rfl
 have h0:=QwK [0,x1,x2,x3,x4,x5,x6,x7,x8,x9,x10,x11,x12,x13,x14,x15] pc [c0,c1,c2,c3,c4,c5,c6,c7] m m.length
 obtain ⟨k1,k2,k3,_,_,_,_,K,P,R,V,k8,_,_⟩:=QlK [0,x1,x2,x3,x4,x5,x6,x7,x8,x9,x10,x11,x12,x13,x14,x15] pc [c0,c1,c2,c3,c4,c5,c6,c7] m m.length rfl rfl hcr hpr rfl hmr hxr
 generalize exS [0,x1,x2,x3,x4,x5,x6,x7,x8,x9,x10,x11,x12,x13,x14,x15] pc [c0,c1,c2,c3,c4,c5,c6,c7] m m.length=Q at *
 obtain ⟨qx,q,qc,qm,qe⟩:=Q
 dsimp only at *
 obtain ⟨y0,y1,y2,y3,y4,y5,y6,y7,y8,y9,y10,y11,y12,y13,y14,y15,rfl⟩:=Qaq k1
 obtain ⟨d0,d1,d2,d3,d4,d5,d6,d7,rfl⟩:=QaJ k2
 obtain rfl:y0=0:=h0
 subst k8
 exact ⟨_,_,_,_,_,_,y1,y2,y3,y4,y5,y6,y7,y8,y9,y10,y11,y12,y13,y14,y15,q,d0,d1,d2,d3,d4,d5,d6,d7,qm,K,P,R,V,Qa4 _ _ _ _ _ _ _,Qa4 _ _ _ _ _ _ _,k3,⟨r1,r2⟩,⟨f1,f2⟩,⟨e1,e2⟩,Qnx [0,y1,y2,y3,y4,y5,y6,y7,y8,y9,y10,y11,y12,y13,y14,y15] q [d0,d1,d2,d3,d4,d5,d6,d7] rfl rfl⟩
theorem QzZ (M:Mc) (hM:M.inn) (raw small:Bool) (kind w a sz ac:Int) (va:Nat) (hva:va<4294967296) (ls acts:List Int) (n k:Nat) (h:¬ (n≤40∧k≤30)):Fn Tryz.prog 3 [.s (.int .i64 kind),.s (.sl 0 0 n),.s (.sl 1 0 k),.s (.int .i64 w),.s (.int .i64 a),.agg (M.C 2),.s (.bool raw),.s (.int .u32 (va:Nat)),.s (.bool small),.s (.int .i64 sz),.s (.int .i64 ac)] [⟨false,1,isv .i64 ls⟩,⟨false,1,isv .i64 acts⟩,⟨false,1,wsv M.m⟩] (· =⟨.a (.s (.bool true)),[],[]⟩):=by
 have hsA:=QaH .i64 ls
 have hsB:=QaH .i64 acts
 have hsM:=Qaa M.m
 have qf:=QeF n k _ _ hsA hsB _ rfl
 have qa:=Qca
 rw [show (decide (n≤40)&&decide (k≤30))=false by simp;omega] at qf
 have hx:=hM.x
 have hc:=hM.c
 clear hM
 generalize isv .i64 ls=A0 at *
 generalize isv .i64 acts=A1 at *
 obtain ⟨_,_,_,me,_,_,_,_,de,ne,_,_,_,_,_⟩:=M
 dsimp only at *
 obtain ⟨_,_,_,_,_,_,_,_,_,_,_,_,_,_,_,_,rfl⟩:=Qaq hx
 obtain ⟨_,_,_,_,_,_,_,_,rfl⟩:=QaJ hc
 obtain ⟨_,_,_,_,_,_,_,_⟩:=de
 obtain ⟨_,_,_,_,_,_⟩:=ne
 simp only [Qaf,List.cons_append,List.nil_append,Mc.C,Mc.D,Dk.C,Nk.C] at *
 generalize wsv me=X0 at *
 generalize me.length=nn at *
 refine fnW Tryz.func3 ?_
 (repeat' ((conv=>whnf);first|(intro hb;first|exact zk4 hb|(try (replace hb:=zn4 hb)))|(refine Qb5 qf ?_)|(refine zpu qa ?_)|refine zst ?_|refine zbx ?_ ?_|refine zgx ?_ ?_|refine eqR ?_));(all_goals (try (conv=>whnf)))
 all_goals exact QeH
theorem Qjp (M:Mc) (hM:M.inn) (kind w a sz ac:Int) (va:Nat) (hva:va<4294967296) (ls acts:List Int) (n k:Nat) (h:n≤40∧k≤30) (h1:M.m.length≤300) (h2:M.ks.size≤40) (h3:M.d.od.size≤300):Fn Tryz.prog 3 [.s (.int .i64 kind),.s (.sl 0 0 n),.s (.sl 1 0 k),.s (.int .i64 w),.s (.int .i64 a),.agg (M.C 2),.s (.bool true),.s (.int .u32 (va:Nat)),.s (.bool true),.s (.int .i64 sz),.s (.int .i64 ac)] [⟨false,1,isv .i64 ls⟩,⟨false,1,isv .i64 acts⟩,⟨false,1,wsv M.m⟩] (· =⟨.a (.s (.bool true)),[],[]⟩):=by
 have hsA:=QaH .i64 ls
 have hsB:=QaH .i64 acts
 have hsM:=Qaa M.m
 have qf:=QeF n k _ _ hsA hsB _ rfl
 have qa:=Qca
 have qr:=Qqn M hM kind w a ls acts n k h1 h2 h3
 rw [show (decide (n≤40)&&decide (k≤30))=true by simp;omega] at qf
 have hml:M.m.length≤1000000:=by omega
 obtain ⟨hx,hc,hxr,hcr,hpr,hmr,_,_,_,_⟩:=hM
 generalize isv .i64 ls=A0 at *
 generalize isv .i64 acts=A1 at *
 obtain ⟨_,pce,ce,me,_,_,_,_,de,ne,_,_,_,_,_⟩:=M
 dsimp only at *
 obtain ⟨_,xe_1,xe_2,xe_3,xe_4,xe_5,xe_6,xe_7,xe_8,xe_9,xe_10,xe_11,xe_12,xe_13,xe_14,xe_15,rfl⟩:=Qaq hx
 obtain ⟨ce_0,ce_1,ce_2,ce_3,ce_4,ce_5,ce_6,ce_7,rfl⟩:=QaJ hc
 obtain ⟨_,_,_,_,_,_,_,_⟩:=de
 obtain ⟨_,_,_,_,_,_⟩:=ne
 obtain ⟨A,rk,rm,W,fk,fm,y1,y2,y3,y4,y5,y6,y7,y8,y9,y10,y11,y12,y13,y14,y15,q,d0,d1,d2,d3,d4,d5,d6,d7,qm,K,P,R,V,rl,fl,ql,⟨r1,r2⟩,⟨f1,f2⟩,⟨e1,e2⟩,ce⟩:=QfT xe_1 xe_2 xe_3 xe_4 xe_5 xe_6 xe_7 xe_8 xe_9 xe_10 xe_11 xe_12 xe_13 xe_14 xe_15 pce ce_0 ce_1 ce_2 ce_3 ce_4 ce_5 ce_6 ce_7 me (fun y hy=>(List.mem_cons.1 hy).elim (fun e=>(by omega)) (fun h=>hxr y (List.mem_cons_of_mem _ h))) hcr hpr hmr hml (va%5000) (by omega) (1+3*(sz%2)) (ac%5)
 have ee:=QfN K P R V
 have w1:=QbH rm _ rl (by omega)
 have w2:=QbH fm _ fl (by omega)
 have w3:=QbH qm _ ql (by omega)
 have s1:=Qaa rm
 have s2:=Qaa fm
 have s3:=Qaa qm
 clear hxr hcr hpr hmr rl fl ql
 generalize wsv rm=X1 at *
 generalize wsv fm=X2 at *
 generalize wsv qm=X3 at *
 have z1:=QaK sz 2 (by decide) (by decide)
 have z2:=QaK ac 5 (by decide) (by decide)
 have v1:(va:Int).tmod 5000=((va%5000:Nat):Int):=by rw [QcL (by omega)];omega
 have v2:IntKind.i64.wrap (3*(sz%2))=3*(sz%2):=QbI (by omega) (by omega)
 have v3:IntKind.i64.wrap (1+3*(sz%2))=1+3*(sz%2):=QbI (by omega) (by omega)
 simp only [Qaf,List.cons_append,List.nil_append,Mc.C,Mc.D,Dk.C,Nk.C] at *
 generalize wsv me=X0 at *
 generalize hnn:me.length=nn at *
 refine fnW Tryz.func3 ?_
 (repeat' ((conv=>whnf);first|(intro hb;first|exact zk4 hb|(try (replace hb:=zn4 hb)))|(refine Qb5 qf ?_)|(refine zpu qa ?_)|(refine QcG qr ?_)|(refine Qal r1 [⟨_,0⟩] [(_,_)] aRn ⟨rfl,trivial⟩ ⟨rfl,Qaw (by assumption),trivial⟩ ⟨rfl,Qba rfl⟩ ?_)|(refine Qal r2 [⟨_,0⟩] [(_,_)] aRn ⟨rfl,trivial⟩ ⟨rfl,Qaw (by assumption),trivial⟩ ⟨rfl,Qba rfl⟩ ?_)|(refine Qal f1 [⟨_,0⟩] [(_,_)] aRn ⟨rfl,trivial⟩ ⟨rfl,Qaw (by assumption),trivial⟩ ⟨rfl,Qba rfl⟩ ?_)|(refine Qal f2 [⟨_,0⟩] [(_,_)] aRn ⟨rfl,trivial⟩ ⟨rfl,Qaw (by assumption),trivial⟩ ⟨rfl,Qba rfl⟩ ?_)|(refine Qal e1 [⟨_,0⟩] [(_,_)] aRn ⟨rfl,trivial⟩ ⟨rfl,Qaw (by assumption),trivial⟩ ⟨rfl,Qba rfl⟩ ?_)|(refine Qal e2 [⟨_,0⟩] [(_,_)] aRn ⟨rfl,trivial⟩ ⟨rfl,Qaw (by assumption),trivial⟩ ⟨rfl,Qba rfl⟩ ?_)|(refine Qb5 w1 ?_)|(refine Qb5 w2 ?_)|(refine Qb5 w3 ?_)|(refine Eqs.mk true (Qcq _ Qm3 rfl _ _ _ (by with_reducible exact ce)) ?_)|(refine Eqs.mk true (Qcq _ ks4 rfl _ _ _ (by with_reducible exact ee)) ?_)|(refine zpu z1 ?_)|(refine zpu z2 ?_)|(with_reducible first|refine zv v1 ?_|refine zv v2 ?_|refine zv v3 ?_)|refine zst ?_|refine zbx ?_ ?_|refine zgx ?_ ?_|refine eqR ?_));(all_goals (try (conv=>whnf)))
 all_goals exact QeH
theorem QhI (M:Mc) (hM:M.inn) (raw:Bool) (kind w a sz ac:Int) (va:Nat) (hva:va<4294967296) (ls acts:List Int) (n k:Nat) (h:n≤40∧k≤30) (hr:¬ (raw=true∧M.m.length≤300∧M.ks.size≤40∧M.d.od.size≤300)) (hn:ls.length=n) (hk:acts.length=k) (hMc:Fn Tryz.prog 43 [.s (.int .i64 kind),.s (.sl 0 0 n)] [⟨false,1,isv .i64 ls⟩] mcQ):Fn Tryz.prog 3 [.s (.int .i64 kind),.s (.sl 0 0 n),.s (.sl 1 0 k),.s (.int .i64 w),.s (.int .i64 a),.agg (M.C 2),.s (.bool raw),.s (.int .u32 (va:Nat)),.s (.bool true),.s (.int .i64 sz),.s (.int .i64 ac)] [⟨false,1,isv .i64 ls⟩,⟨false,1,isv .i64 acts⟩,⟨false,1,wsv M.m⟩] (· =⟨.a (.s (.bool true)),[],[]⟩):=by
 have hsA:=QaH .i64 ls
 have hsB:=QaH .i64 acts
 have hsM:=Qaa M.m
 have qf:=QeF n k _ _ hsA hsB _ rfl
 have qa:=Qca
 have qr:=Qly M hM raw kind w a ls acts n k hr hn hk h.2 hMc
 rw [show (decide (n≤40)&&decide (k≤30))=true by simp;omega] at qf
 have hx:=hM.x
 have hc:=hM.c
 clear hM hMc hn hk hr
 generalize isv .i64 ls=A0 at *
 generalize isv .i64 acts=A1 at *
 obtain ⟨_,_,ce,me,_,_,_,_,de,ne,_,_,_,_,_⟩:=M
 dsimp only at *
 obtain ⟨_,_,_,_,_,_,_,_,_,_,_,_,_,_,_,_,rfl⟩:=Qaq hx
 obtain ⟨_,_,_,_,_,_,_,_,rfl⟩:=QaJ hc
 obtain ⟨_,_,_,_,_,_,_,_⟩:=de
 obtain ⟨_,_,_,_,_,_⟩:=ne
 have z1:=QaK sz 2 (by decide) (by decide)
 have z2:=QaK ac 5 (by decide) (by decide)
 have v1:(va:Int).tmod 5000=((va%5000:Nat):Int):=by rw [QcL (by omega)];omega
 have v2:IntKind.i64.wrap (3*(sz%2))=3*(sz%2):=QbI (by omega) (by omega)
 have v3:IntKind.i64.wrap (1+3*(sz%2))=1+3*(sz%2):=QbI (by omega) (by omega)
 simp only [Qaf,List.cons_append,List.nil_append,Mc.C,Mc.D,Dk.C,Nk.C] at *
 generalize wsv me=X0 at *
 generalize hnn:me.length=nn at *
 refine fnW Tryz.func3 ?_
 (repeat' ((conv=>whnf);first|(intro hb;first|exact zk4 hb|(try (replace hb:=zn4 hb)))|(refine Qb5 qf ?_)|(refine zpu qa ?_)|(refine QbK qr [⟨_,0⟩,⟨_,0⟩,⟨_,0⟩] [(_,_),(_,_),(_,_)] aRn ⟨rfl,rfl,rfl,trivial⟩ ⟨rfl,Qaw (by assumption),rfl,Qaw (by assumption),rfl,Qaw (by assumption),trivial⟩ ?_ ?_;(focus (rintro R ⟨M3,z3,_,rfl⟩;exact ⟨(by show 1≤Qam;decide),fun p h=>by cases h⟩));rintro R ⟨M2,z,hok2,rfl⟩;obtain ⟨hx2,hc2,hxr,hcr,hpr,hmr,hml,_,_,_⟩:=hok2;have hs2:=Qaa (M2.m++z);have hs2m:=Qaa M2.m;have hpre:∀ (q:Nat) s,(wsv M2.m)[q]?=some s→(wsv (M2.m++z))[q]?=some s:=fun q s h=>(by rw [Qdw];exact (List.getElem?_append_left (List.getElem?_eq_some_iff.1 h).1).trans h);have hple:(wsv M2.m).length≤(wsv (M2.m++z)).length:=(by have e:=@List.length_append _ M2.m z;have ea:=wsv_length M2.m;have eb:=wsv_length (M2.m++z);omega);obtain ⟨_,pcf,_,mf,_,_,_,_,df,nf,_,_,_,_,_⟩:=M2;dsimp only at *;obtain ⟨_,xf_1,xf_2,xf_3,xf_4,xf_5,xf_6,xf_7,xf_8,xf_9,xf_10,xf_11,xf_12,xf_13,xf_14,xf_15,rfl⟩:=Qaq hx2;obtain ⟨cf_0,cf_1,cf_2,cf_3,cf_4,cf_5,cf_6,cf_7,rfl⟩:=QaJ hc2;obtain ⟨_,_,_,_,_,_,_,_⟩:=df;obtain ⟨_,_,_,_,_,_⟩:=nf;obtain ⟨A,rk,rm,W,fk,fm,y1,y2,y3,y4,y5,y6,y7,y8,y9,y10,y11,y12,y13,y14,y15,q,d0,d1,d2,d3,d4,d5,d6,d7,qm,K,P,R,V,rl,fl,ql,⟨r1,r2⟩,⟨f1,f2⟩,⟨e1,e2⟩,ce⟩:=QfT xf_1 xf_2 xf_3 xf_4 xf_5 xf_6 xf_7 xf_8 xf_9 xf_10 xf_11 xf_12 xf_13 xf_14 xf_15 pcf cf_0 cf_1 cf_2 cf_3 cf_4 cf_5 cf_6 cf_7 mf (fun y hy=>(List.mem_cons.1 hy).elim (fun e=>(by omega)) (fun h=>hxr y (List.mem_cons_of_mem _ h))) hcr hpr hmr hml (va%5000) (by omega) (1+3*(sz%2)) (ac%5);have ee:=QfN K P R V;have w1:=QbH rm _ rl (by omega);have w2:=QbH fm _ fl (by omega);have w3:=QbH qm _ ql (by omega);have s1:=Qaa rm;have s2:=Qaa fm;have s3:=Qaa qm;clear hxr hcr hpr hmr rl fl ql;generalize wsv rm=X1 at *;generalize wsv fm=X2 at *;generalize wsv qm=X3 at *;generalize hXf:wsv mf=Xf at *;generalize hXz:wsv (mf++z)=Xz at *;simp only [Qaf,List.cons_append,List.nil_append,Mc.C,Mc.D,Dk.C,Nk.C] at *;generalize hnf:mf.length=nf at *)|(refine Qal r1 [⟨_,0⟩] [(_,_)] aRn ⟨rfl,trivial⟩ ⟨rfl,Qa5 (by assumption) hpre hple,trivial⟩ ⟨rfl,Qba rfl⟩ ?_)|(refine Qal r2 [⟨_,0⟩] [(_,_)] aRn ⟨rfl,trivial⟩ ⟨rfl,Qa5 (by assumption) hpre hple,trivial⟩ ⟨rfl,Qba rfl⟩ ?_)|(refine Qal f1 [⟨_,0⟩] [(_,_)] aRn ⟨rfl,trivial⟩ ⟨rfl,Qa5 (by assumption) hpre hple,trivial⟩ ⟨rfl,Qba rfl⟩ ?_)|(refine Qal f2 [⟨_,0⟩] [(_,_)] aRn ⟨rfl,trivial⟩ ⟨rfl,Qa5 (by assumption) hpre hple,trivial⟩ ⟨rfl,Qba rfl⟩ ?_)|(refine Qal e1 [⟨_,0⟩] [(_,_)] aRn ⟨rfl,trivial⟩ ⟨rfl,Qa5 (by assumption) hpre hple,trivial⟩ ⟨rfl,Qba rfl⟩ ?_)|(refine Qal e2 [⟨_,0⟩] [(_,_)] aRn ⟨rfl,trivial⟩ ⟨rfl,Qa5 (by assumption) hpre hple,trivial⟩ ⟨rfl,Qba rfl⟩ ?_)|(refine Qb5 w1 ?_)|(refine Qb5 w2 ?_)|(refine Qb5 w3 ?_)|(refine Eqs.mk true (Qcq _ Qm3 rfl _ _ _ (by with_reducible exact ce)) ?_)|(refine Eqs.mk true (Qcq _ ks4 rfl _ _ _ (by with_reducible exact ee)) ?_)|(refine zpu z1 ?_)|(refine zpu z2 ?_)|(with_reducible first|refine zv v1 ?_|refine zv v2 ?_|refine zv v3 ?_)|refine zst ?_|refine zbx ?_ ?_|refine zgx ?_ ?_|refine eqR ?_));(all_goals (try (conv=>whnf)))
 all_goals exact QeH
theorem QhA (M:Mc) (hM:M.inn) (kind w a sz ac:Int) (va:Nat) (hva:va<4294967296) (ls acts:List Int) (n k:Nat) (h:n≤40∧k≤30) (h1:M.m.length≤300) (h2:M.ks.size≤40) (h3:M.d.od.size≤300):Fn Tryz.prog 3 [.s (.int .i64 kind),.s (.sl 0 0 n),.s (.sl 1 0 k),.s (.int .i64 w),.s (.int .i64 a),.agg (M.C 2),.s (.bool true),.s (.int .u32 (va:Nat)),.s (.bool false),.s (.int .i64 sz),.s (.int .i64 ac)] [⟨false,1,isv .i64 ls⟩,⟨false,1,isv .i64 acts⟩,⟨false,1,wsv M.m⟩] (· =⟨.a (.s (.bool true)),[],[]⟩):=by
 have hsA:=QaH .i64 ls
 have hsB:=QaH .i64 acts
 have hsM:=Qaa M.m
 have qf:=QeF n k _ _ hsA hsB _ rfl
 have qa:=Qca
 have qr:=Qqn M hM kind w a ls acts n k h1 h2 h3
 rw [show (decide (n≤40)&&decide (k≤30))=true by simp;omega] at qf
 have hml:M.m.length≤1000000:=by omega
 obtain ⟨hx,hc,hxr,hcr,hpr,hmr,_,_,_,_⟩:=hM
 generalize isv .i64 ls=A0 at *
 generalize isv .i64 acts=A1 at *
 obtain ⟨_,pce,ce,me,_,_,_,_,de,ne,_,_,_,_,_⟩:=M
 dsimp only at *
 obtain ⟨_,xe_1,xe_2,xe_3,xe_4,xe_5,xe_6,xe_7,xe_8,xe_9,xe_10,xe_11,xe_12,xe_13,xe_14,xe_15,rfl⟩:=Qaq hx
 obtain ⟨ce_0,ce_1,ce_2,ce_3,ce_4,ce_5,ce_6,ce_7,rfl⟩:=QaJ hc
 obtain ⟨_,_,_,_,_,_,_,_⟩:=de
 obtain ⟨_,_,_,_,_,_⟩:=ne
 obtain ⟨A,rk,rm,W,fk,fm,y1,y2,y3,y4,y5,y6,y7,y8,y9,y10,y11,y12,y13,y14,y15,q,d0,d1,d2,d3,d4,d5,d6,d7,qm,K,P,R,V,rl,fl,ql,⟨r1,r2⟩,⟨f1,f2⟩,⟨e1,e2⟩,ce⟩:=QfT xe_1 xe_2 xe_3 xe_4 xe_5 xe_6 xe_7 xe_8 xe_9 xe_10 xe_11 xe_12 xe_13 xe_14 xe_15 pce ce_0 ce_1 ce_2 ce_3 ce_4 ce_5 ce_6 ce_7 me (fun y hy=>(List.mem_cons.1 hy).elim (fun e=>(by omega)) (fun h=>hxr y (List.mem_cons_of_mem _ h))) hcr hpr hmr hml (va) (by omega) (sz) (ac)
 have ee:=QfN K P R V
 have w1:=QbH rm _ rl (by omega)
 have w2:=QbH fm _ fl (by omega)
 have w3:=QbH qm _ ql (by omega)
 have s1:=Qaa rm
 have s2:=Qaa fm
 have s3:=Qaa qm
 clear hxr hcr hpr hmr rl fl ql
 generalize wsv rm=X1 at *
 generalize wsv fm=X2 at *
 generalize wsv qm=X3 at *
 simp only [Qaf,List.cons_append,List.nil_append,Mc.C,Mc.D,Dk.C,Nk.C] at *
 generalize wsv me=X0 at *
 generalize hnn:me.length=nn at *
 refine fnW Tryz.func3 ?_
 (repeat' ((conv=>whnf);first|(intro hb;first|exact zk4 hb|(try (replace hb:=zn4 hb)))|(refine Qb5 qf ?_)|(refine zpu qa ?_)|(refine QcG qr ?_)|(refine Qal r1 [⟨_,0⟩] [(_,_)] aRn ⟨rfl,trivial⟩ ⟨rfl,Qaw (by assumption),trivial⟩ ⟨rfl,Qba rfl⟩ ?_)|(refine Qal r2 [⟨_,0⟩] [(_,_)] aRn ⟨rfl,trivial⟩ ⟨rfl,Qaw (by assumption),trivial⟩ ⟨rfl,Qba rfl⟩ ?_)|(refine Qal f1 [⟨_,0⟩] [(_,_)] aRn ⟨rfl,trivial⟩ ⟨rfl,Qaw (by assumption),trivial⟩ ⟨rfl,Qba rfl⟩ ?_)|(refine Qal f2 [⟨_,0⟩] [(_,_)] aRn ⟨rfl,trivial⟩ ⟨rfl,Qaw (by assumption),trivial⟩ ⟨rfl,Qba rfl⟩ ?_)|(refine Qal e1 [⟨_,0⟩] [(_,_)] aRn ⟨rfl,trivial⟩ ⟨rfl,Qaw (by assumption),trivial⟩ ⟨rfl,Qba rfl⟩ ?_)|(refine Qal e2 [⟨_,0⟩] [(_,_)] aRn ⟨rfl,trivial⟩ ⟨rfl,Qaw (by assumption),trivial⟩ ⟨rfl,Qba rfl⟩ ?_)|(refine Qb5 w1 ?_)|(refine Qb5 w2 ?_)|(refine Qb5 w3 ?_)|(refine Eqs.mk true (Qcq _ Qm3 rfl _ _ _ (by with_reducible exact ce)) ?_)|(refine Eqs.mk true (Qcq _ ks4 rfl _ _ _ (by with_reducible exact ee)) ?_)|refine zst ?_|refine zbx ?_ ?_|refine zgx ?_ ?_|refine eqR ?_));(all_goals (try (conv=>whnf)))
 all_goals exact QeH
theorem Qg3 (M:Mc) (hM:M.inn) (raw:Bool) (kind w a sz ac:Int) (va:Nat) (hva:va<4294967296) (ls acts:List Int) (n k:Nat) (h:n≤40∧k≤30) (hr:¬ (raw=true∧M.m.length≤300∧M.ks.size≤40∧M.d.od.size≤300)) (hn:ls.length=n) (hk:acts.length=k) (hMc:Fn Tryz.prog 43 [.s (.int .i64 kind),.s (.sl 0 0 n)] [⟨false,1,isv .i64 ls⟩] mcQ):Fn Tryz.prog 3 [.s (.int .i64 kind),.s (.sl 0 0 n),.s (.sl 1 0 k),.s (.int .i64 w),.s (.int .i64 a),.agg (M.C 2),.s (.bool raw),.s (.int .u32 (va:Nat)),.s (.bool false),.s (.int .i64 sz),.s (.int .i64 ac)] [⟨false,1,isv .i64 ls⟩,⟨false,1,isv .i64 acts⟩,⟨false,1,wsv M.m⟩] (· =⟨.a (.s (.bool true)),[],[]⟩):=by
 have hsA:=QaH .i64 ls
 have hsB:=QaH .i64 acts
 have hsM:=Qaa M.m
 have qf:=QeF n k _ _ hsA hsB _ rfl
 have qa:=Qca
 have qr:=Qly M hM raw kind w a ls acts n k hr hn hk h.2 hMc
 rw [show (decide (n≤40)&&decide (k≤30))=true by simp;omega] at qf
 have hx:=hM.x
 have hc:=hM.c
 clear hM hMc hn hk hr
 generalize isv .i64 ls=A0 at *
 generalize isv .i64 acts=A1 at *
 obtain ⟨_,_,ce,me,_,_,_,_,de,ne,_,_,_,_,_⟩:=M
 dsimp only at *
 obtain ⟨_,_,_,_,_,_,_,_,_,_,_,_,_,_,_,_,rfl⟩:=Qaq hx
 obtain ⟨_,_,_,_,_,_,_,_,rfl⟩:=QaJ hc
 obtain ⟨_,_,_,_,_,_,_,_⟩:=de
 obtain ⟨_,_,_,_,_,_⟩:=ne
 simp only [Qaf,List.cons_append,List.nil_append,Mc.C,Mc.D,Dk.C,Nk.C] at *
 generalize wsv me=X0 at *
 generalize hnn:me.length=nn at *
 refine fnW Tryz.func3 ?_
 (repeat' ((conv=>whnf);first|(intro hb;first|exact zk4 hb|(try (replace hb:=zn4 hb)))|(refine Qb5 qf ?_)|(refine zpu qa ?_)|(refine QbK qr [⟨_,0⟩,⟨_,0⟩,⟨_,0⟩] [(_,_),(_,_),(_,_)] aRn ⟨rfl,rfl,rfl,trivial⟩ ⟨rfl,Qaw (by assumption),rfl,Qaw (by assumption),rfl,Qaw (by assumption),trivial⟩ ?_ ?_;(focus (rintro R ⟨M3,z3,_,rfl⟩;exact ⟨(by show 1≤Qam;decide),fun p h=>by cases h⟩));rintro R ⟨M2,z,hok2,rfl⟩;obtain ⟨hx2,hc2,hxr,hcr,hpr,hmr,hml,_,_,_⟩:=hok2;have hs2:=Qaa (M2.m++z);have hs2m:=Qaa M2.m;have hpre:∀ (q:Nat) s,(wsv M2.m)[q]?=some s→(wsv (M2.m++z))[q]?=some s:=fun q s h=>(by rw [Qdw];exact (List.getElem?_append_left (List.getElem?_eq_some_iff.1 h).1).trans h);have hple:(wsv M2.m).length≤(wsv (M2.m++z)).length:=(by have e:=@List.length_append _ M2.m z;have ea:=wsv_length M2.m;have eb:=wsv_length (M2.m++z);omega);obtain ⟨_,pcf,_,mf,_,_,_,_,df,nf,_,_,_,_,_⟩:=M2;dsimp only at *;obtain ⟨_,xf_1,xf_2,xf_3,xf_4,xf_5,xf_6,xf_7,xf_8,xf_9,xf_10,xf_11,xf_12,xf_13,xf_14,xf_15,rfl⟩:=Qaq hx2;obtain ⟨cf_0,cf_1,cf_2,cf_3,cf_4,cf_5,cf_6,cf_7,rfl⟩:=QaJ hc2;obtain ⟨_,_,_,_,_,_,_,_⟩:=df;obtain ⟨_,_,_,_,_,_⟩:=nf;obtain ⟨A,rk,rm,W,fk,fm,y1,y2,y3,y4,y5,y6,y7,y8,y9,y10,y11,y12,y13,y14,y15,q,d0,d1,d2,d3,d4,d5,d6,d7,qm,K,P,R,V,rl,fl,ql,⟨r1,r2⟩,⟨f1,f2⟩,⟨e1,e2⟩,ce⟩:=QfT xf_1 xf_2 xf_3 xf_4 xf_5 xf_6 xf_7 xf_8 xf_9 xf_10 xf_11 xf_12 xf_13 xf_14 xf_15 pcf cf_0 cf_1 cf_2 cf_3 cf_4 cf_5 cf_6 cf_7 mf (fun y hy=>(List.mem_cons.1 hy).elim (fun e=>(by omega)) (fun h=>hxr y (List.mem_cons_of_mem _ h))) hcr hpr hmr hml (va) (by omega) (sz) (ac);have ee:=QfN K P R V;have w1:=QbH rm _ rl (by omega);have w2:=QbH fm _ fl (by omega);have w3:=QbH qm _ ql (by omega);have s1:=Qaa rm;have s2:=Qaa fm;have s3:=Qaa qm;clear hxr hcr hpr hmr rl fl ql;generalize wsv rm=X1 at *;generalize wsv fm=X2 at *;generalize wsv qm=X3 at *;generalize hXf:wsv mf=Xf at *;generalize hXz:wsv (mf++z)=Xz at *;simp only [Qaf,List.cons_append,List.nil_append,Mc.C,Mc.D,Dk.C,Nk.C] at *;generalize hnf:mf.length=nf at *)|(refine Qal r1 [⟨_,0⟩] [(_,_)] aRn ⟨rfl,trivial⟩ ⟨rfl,Qa5 (by assumption) hpre hple,trivial⟩ ⟨rfl,Qba rfl⟩ ?_)|(refine Qal r2 [⟨_,0⟩] [(_,_)] aRn ⟨rfl,trivial⟩ ⟨rfl,Qa5 (by assumption) hpre hple,trivial⟩ ⟨rfl,Qba rfl⟩ ?_)|(refine Qal f1 [⟨_,0⟩] [(_,_)] aRn ⟨rfl,trivial⟩ ⟨rfl,Qa5 (by assumption) hpre hple,trivial⟩ ⟨rfl,Qba rfl⟩ ?_)|(refine Qal f2 [⟨_,0⟩] [(_,_)] aRn ⟨rfl,trivial⟩ ⟨rfl,Qa5 (by assumption) hpre hple,trivial⟩ ⟨rfl,Qba rfl⟩ ?_)|(refine Qal e1 [⟨_,0⟩] [(_,_)] aRn ⟨rfl,trivial⟩ ⟨rfl,Qa5 (by assumption) hpre hple,trivial⟩ ⟨rfl,Qba rfl⟩ ?_)|(refine Qal e2 [⟨_,0⟩] [(_,_)] aRn ⟨rfl,trivial⟩ ⟨rfl,Qa5 (by assumption) hpre hple,trivial⟩ ⟨rfl,Qba rfl⟩ ?_)|(refine Qb5 w1 ?_)|(refine Qb5 w2 ?_)|(refine Qb5 w3 ?_)|(refine Eqs.mk true (Qcq _ Qm3 rfl _ _ _ (by with_reducible exact ce)) ?_)|(refine Eqs.mk true (Qcq _ ks4 rfl _ _ _ (by with_reducible exact ee)) ?_)|refine zst ?_|refine zbx ?_ ?_|refine zgx ?_ ?_|refine eqR ?_));(all_goals (try (conv=>whnf)))
 all_goals exact QeH
theorem ce_fn (M:Mc) (hM:M.inn) (raw small:Bool) (kind w a sz ac:Int) (va:Nat) (hva:va<4294967296) (ls acts:List Int) (n k:Nat) (hn:ls.length=n) (hk:acts.length=k):Fn Tryz.prog 3 [.s (.int .i64 kind),.s (.sl 0 0 n),.s (.sl 1 0 k),.s (.int .i64 w),.s (.int .i64 a),.agg (M.C 2),.s (.bool raw),.s (.int .u32 (va:Nat)),.s (.bool small),.s (.int .i64 sz),.s (.int .i64 ac)] [⟨false,1,isv .i64 ls⟩,⟨false,1,isv .i64 acts⟩,⟨false,1,wsv M.m⟩] (· =⟨.a (.s (.bool true)),[],[]⟩):=by
 by_cases h:n≤40∧k≤30
 ·by_cases hr:raw=true∧M.m.length≤300∧M.ks.size≤40∧M.d.od.size≤300
  ·obtain ⟨rfl,h1,h2,h3⟩:=hr
   cases small
   ·exact QhA M hM kind w a sz ac va hva ls acts n k h h1 h2 h3
   ·exact Qjp M hM kind w a sz ac va hva ls acts n k h h1 h2 h3
  ·have hMc:=Qe4 kind ls n hn h.1
   cases small
   ·exact Qg3 M hM raw kind w a sz ac va hva ls acts n k h hr hn hk hMc
   ·exact QhI M hM raw kind w a sz ac va hva ls acts n k h hr hn hk hMc
 ·exact QzZ M hM raw small kind w a sz ac va hva ls acts n k h
end Go.Proofs.YtjgikeckbeeehaaGreat
