import Derived.Test.YtjgikeckbeeehaaGreatP11
set_option linter.unusedSimpArgs false
set_option linter.unusedVariables false
set_option maxHeartbeats 100000000
set_option maxRecDepth 100000
namespace Go.Proofs.YtjgikeckbeeehaaGreat
open Go Go.RowKit
theorem QgK (ac:Int):Fn Tryz.prog 57 [.s (.int .i64 ac)] [] (· =⟨.a (.s (.int .i64 (Qcn ac))),[],[]⟩):=by
 refine fnW Tryz.func57 ?_
 (repeat' ((conv=>whnf);first|(intro hb;first|exact zk0 hb|(try (replace hb:=zn0 hb)))|refine zs0 ?_|refine zbx ?_ ?_|refine zgx ?_ ?_));(all_goals (try (conv=>whnf)))
 all_goals first
  | (subst hb;exact Qan rfl rfl)
  | (
    have e1:Qcn ac=5:=by unfold Qcn;rw [if_neg (by omega),if_neg (by omega)]
    rw [e1]
    exact Qan rfl rfl)
 
theorem Qhd (ac:Int):Fn Tryz.prog 54 [.s (.int .i64 ac)] [] (· =⟨.a (.s (.bool (QcY ac))),[],[]⟩):=by
 unfold QcY
 refine fnW Tryz.func54 ?_
 (repeat' ((conv=>whnf);first|(intro hb;first|exact zk0 hb|(try (replace hb:=zn0 hb)))|refine zs0 ?_|refine zbx ?_ ?_|refine zgx ?_ ?_));(all_goals (try (conv=>whnf)))
 all_goals first
  | (refine Qan rfl ?_;simp only [Qa7];congr 3;first|exact (decide_eq_false (by omega)).symm|exact (decide_eq_true (by omega)).symm|(rw [Bool.eq_iff_iff];simp only [decide_eq_true_eq,beq_iff_eq];omega))
 
theorem Qta (v:Nat) (hv:v<4294967296):bits .and .u32 (v:Int) 255=((v%256:Nat):Int):=by
 rw [show (255:Int)=((255:Nat):Int) from rfl,Qex v 255 hv (by omega),show (255:Nat)=2^8-1 from rfl,Nat.and_two_pow_sub_one_eq_mod]
theorem QAm (p:Nat):((p:Int) / 2^min (Int.toNat 8) IntKind.u32.bits)=((p / 256:Nat):Int):=by
 rw [show (2:Int)^min (Int.toNat 8) IntKind.u32.bits=256 from rfl];omega
theorem Qq8 (p:Nat) (hp:p<4294967296):bits .and .u32 ((p / 256:Nat):Int) 255=((frW p:Nat):Int):=by
 rw [Qta _ (by omega)];rfl
theorem Qch (xs:List Nat) (n a:Nat) (hn:n<4294967296) (ha:a<4294967296):Fn Tryz.prog 56 [.s (.sl 0 0 n),.s (.int .u32 a),.s (.int .i64 4)] [⟨false,1,wsv xs⟩] (· =⟨.a (.s (.bool (ld4 n a))),[],[]⟩):=by
 have hm:=Qbe n
 have hp:=QbN xs n hn
 have hsx:=Qaa xs
 unfold ld4
 generalize mpg n=P at *
 generalize wsv xs=XX at *
 refine fnW Tryz.func56 ?_
 (repeat' ((conv=>whnf);first|(intro hb;first|exact zk0 hb|(try (replace hb:=zn0 hb)))|(refine Qay hp ?_)|refine zst ?_|refine zbx ?_ ?_|refine zgx ?_ ?_));(all_goals (try (conv=>whnf)))
 all_goals
  refine QaU rfl hsx rfl ?_
  simp only [Qa7]
  congr 3
  refine Eq.symm ?_
  first
   | (rw [decide_eq_false (by omega)];rfl)
   | (rw [decide_eq_true (by omega),Bool.true_and,Bool.eq_iff_iff,decide_eq_true_eq,decide_eq_true_eq];omega)
theorem Qna (xs:List Nat) (n E:Nat) (ac:Int) (hl:xs.length=n) (hn:n<4294967296) (hxr:∀ y∈xs,y<4294967296) (hE:E<4294967296) (hld:ld4 n E=true) :
  Fn Tryz.prog 59 [.s (.sl 0 0 n),.s (.int .u32 E),.s (.int .i64 ac)] [⟨true,1,wsv xs⟩] (· =⟨.tup [],[(0,some ⟨true,1,wsv (xs.set (E / 4) (Qfg (xs.getD (E / 4) 0) ac))⟩)],[]⟩):=by
 have cw:=Qch xs n E hn hE
 rw [hld] at cw
 have hln:=QdJ hld
 have hp:=Qad hxr (E / 4)
 have hg:=Qbf xs (E / 4) (by omega)
 have hlw:(wsv xs).length=n:=by simp [hl]
 have o1:=QiO (xs.getD (E / 4) 0) 8 hp (by omega)
 have o2:=QiO (xs.getD (E / 4) 0 ||| 8) 16 o1.2 (by omega)
 have k1:bits .or .u32 ((xs.getD (E / 4) 0:Nat):Int) 8=((xs.getD (E / 4) 0 ||| 8:Nat):Int):=o1.1
 have k2:bits .or .u32 ((xs.getD (E / 4) 0 ||| 8:Nat):Int) 16=(((xs.getD (E / 4) 0 ||| 8) ||| 16:Nat):Int):=o2.1
 have hs1:=Qbv xs (E / 4) (xs.getD (E / 4) 0 ||| 8) (by omega)
 have hs2:=Qbv (xs.set (E / 4) (xs.getD (E / 4) 0 ||| 8)) (E / 4) ((xs.getD (E / 4) 0 ||| 8) ||| 16) (by rw [List.length_set];omega)
 rw [List.set_set] at hs2
 have hg1:(wsv (xs.set (E / 4) (xs.getD (E / 4) 0 ||| 8)))[E / 4]?=some (.int .u32 ((xs.getD (E / 4) 0 ||| 8:Nat):Int)):=by
  rw [Qbf _ _ (by rw [List.length_set];omega)]
  rw [List.getD_eq_getElem?_getD,List.getElem?_set_self (by omega)];rfl
 have t3:ac=3→Qfg (xs.getD (E / 4) 0) ac=(xs.getD (E / 4) 0 ||| 8) ||| 16:=fun h=>if_pos h
 have t0:ac≠3→Qfg (xs.getD (E / 4) 0) ac=xs.getD (E / 4) 0 ||| 8:=fun h=>if_neg h
 have hl1:(wsv (xs.set (E / 4) (xs.getD (E / 4) 0 ||| 8))).length=n:=by simp [hl]
 have sc0:=Qaa xs
 have sc1:=Qaa (xs.set (E / 4) (xs.getD (E / 4) 0 ||| 8))
 have sc2:=Qaa (xs.set (E / 4) ((xs.getD (E / 4) 0 ||| 8) ||| 16))
 have x1:=ldi E
 clear o1 o2
 generalize (xs.getD (E / 4) 0 ||| 8) ||| 16=p2 at *
 generalize xs.getD (E / 4) 0 ||| 8=p1 at *
 generalize Qfg (xs.getD (E / 4) 0) ac=p3 at *
 generalize xs.getD (E / 4) 0=p at *
 by_cases h3:ac=3
 ·rw [t3 h3]
  subst h3
  generalize wsv (xs.set (E / 4) p2)=X2 at *
  generalize wsv (xs.set (E / 4) p1)=X1 at *
  generalize wsv xs=X0 at *
  refine fnW Tryz.func59 ?_
  (repeat' ((conv=>whnf);first|(intro hb;first|exact zk0 hb|(try (replace hb:=zn0 hb)))|(with_reducible first|refine zv k1 ?_|refine zv k2 ?_)|((with_reducible apply Vl.mk (α:=Nat)); · with_reducible exact x1)|(apply Sd.mk; · first|omega|(refine ⟨rfl,rfl,rfl,?_⟩;first|(show _≤X0.length;simp;omega)|(show _≤X1.length;simp;omega)))|((with_reducible apply Ge.mk (α:=SV)); · first|exact hg|exact hg1)|((with_reducible apply Vl.mk (α:=List SV)); · with_reducible first|exact hs1|exact hs2)|(refine Qay cw ?_)|refine zst ?_|refine zbx ?_ ?_|refine zgx ?_ ?_));(all_goals (try (conv=>whnf)))
  all_goals exact Qbr
 ·rw [t0 h3]
  generalize wsv (xs.set (E / 4) p1)=X1 at *
  generalize wsv xs=X0 at *
  refine fnW Tryz.func59 ?_
  (repeat' ((conv=>whnf);first|(intro hb;first|exact zk0 hb|(try (replace hb:=zn0 hb)))|(with_reducible first|refine zv k1 ?_|refine zv k2 ?_)|((with_reducible apply Vl.mk (α:=Nat)); · with_reducible exact x1)|(apply Sd.mk; · first|omega|(refine ⟨rfl,rfl,rfl,?_⟩;first|(show _≤X0.length;simp;omega)|(show _≤X1.length;simp;omega)))|((with_reducible apply Ge.mk (α:=SV)); · first|exact hg|exact hg1)|((with_reducible apply Vl.mk (α:=List SV)); · with_reducible first|exact hs1|exact hs2)|(refine Qay cw ?_)|refine zst ?_|refine zbx ?_ ?_|refine zgx ?_ ?_));(all_goals (try (conv=>whnf)))
  all_goals exact Qbr
theorem QlA (xs:List Nat) (n r va:Nat) (ac:Int) (hl:xs.length=n) (hn:n<4294967296) (hxr:∀ y∈xs,y<4294967296) (hr:r<4294967296) (hva:va<4294967296) :
  Fn Tryz.prog 58 [.s (.sl 0 0 n),.s (.int .u32 r),.s (.int .u32 va),.s (.int .i64 ac)] [⟨false,1,wsv xs⟩] (· =⟨.a (.agg (Qho xs n r va ac)),[],[]⟩):=by
 have hsx:=Qaa xs
 have hm:=Qbe n
 have hmn:mpg n*32≤n:=by unfold mpg;split<;>omega
 have cc:=QgK ac
 have ck:=Qhd ac
 have cp:=QbN xs n hn
 have e9:IntKind.u32.wrap ((mpg n:Nat):Int)=((mpg n:Nat):Int):=Qcf (by omega) (by omega)
 cases h0:QcY ac with
 | false =>
  rw [Qcr (by rw [h0];simp)]
  rw [h0] at ck
  generalize mpg n=MP at *
  generalize Qcn ac=C at *
  generalize wsv xs=XX at *
  refine fnW Tryz.func58 ?_
  (repeat' ((conv=>whnf);first|(intro hb;first|exact zk0 hb|(try (replace hb:=zn0 hb)))|(with_reducible refine zv e9 ?_)|(refine zpu cc ?_)|(refine zpu ck ?_)|(refine Qay cp ?_)|refine zst ?_|refine zbx ?_ ?_|refine zgx ?_ ?_));(all_goals (try (conv=>whnf)))
  all_goals first|exact QaU rfl hsx rfl rfl
 | true =>
  rw [h0] at ck
  by_cases h12:va<4096∧r<mpg n
  ·obtain ⟨h1,h2⟩:=h12
   have he:Qbc r va<4294967296∧Qbc r va / 4=r*32+va / 128∧ld4 n (Qbc r va)=true:=by
    unfold Qbc
    refine ⟨by omega,by omega,?_⟩
    unfold ld4;rw [decide_eq_true (by omega),decide_eq_true (by omega)];rfl
   have hge:(wsv xs)[Qbc r va / 4]?=some (.int .u32 (Qa9 xs r va:Nat)):=by
    rw [he.2.1];exact Qbf xs _ (by omega)
   have hp:=Qad hxr (r*32+va / 128)
   change Qa9 xs r va<4294967296 at hp
   have e1:IntKind.u32.wrap ((va:Int).tdiv 128)=((va / 128:Nat):Int):=by rw [QcN (by omega),Qcf (by omega) (by omega)];omega
   have e2:IntKind.u32.wrap (4*((va / 128:Nat):Int))=((4*(va / 128):Nat):Int):=by rw [Qcf (by omega) (by omega)];omega
   have e0:IntKind.u32.wrap ((r:Int)*128)=((r*128:Nat):Int):=by rw [Qcf (by omega) (by omega)];omega
   have e3:IntKind.u32.wrap (((r*128:Nat):Int)+((4*(va / 128):Nat):Int))=((Qbc r va:Nat):Int):=by unfold Qbc;rw [Qcf (by omega) (by omega)];omega
   have hix:Qbc r va / 4<n:=by rw [he.2.1];omega
   have x1:=ldi (Qbc r va)
   have b1:bits .and .u32 ((Qa9 xs r va:Nat):Int) 1=((Qa9 xs r va &&& 1:Nat):Int):=Qex _ 1 hp (by omega)
   have b2:bits .and .u32 ((Qa9 xs r va:Nat):Int) 2=((Qa9 xs r va &&& 2:Nat):Int):=Qex _ 2 hp (by omega)
   have b4:bits .and .u32 ((Qa9 xs r va:Nat):Int) 4=((Qa9 xs r va &&& 4:Nat):Int):=Qex _ 4 hp (by omega)
   have s1:=QAm (Qa9 xs r va)
   have s2:=Qq8 (Qa9 xs r va) hp
   have hfl:=Qi2 (Qa9 xs r va)
   have he1:=he.1
   by_cases h34:pmW (Qa9 xs r va) ac=true∧frW (Qa9 xs r va)<mpg n
   ·obtain ⟨h3,h4⟩:=h34
    rw [Qli h0 h1 h2 h3 h4]
    unfold pmW at h3
    rw [decide_eq_true_eq] at h3
    generalize Qbc r va=E at *
    generalize frW (Qa9 xs r va)=F at *
    have e4:IntKind.u32.wrap ((F:Int)*128)=((F*128:Nat):Int):=by rw [Qcf (by omega) (by omega)];omega
    have e5:(va:Int).tmod 128=((va%128:Nat):Int):=by rw [QcL (by omega)];omega
    have e6:IntKind.u32.wrap (((F*128:Nat):Int)+((va%128:Nat):Int))=((F*128+va%128:Nat):Int):=by rw [Qcf (by omega) (by omega)];omega
    generalize Qa9 xs r va &&& 1=a1 at *
    generalize Qa9 xs r va &&& 2=a2 at *
    generalize Qa9 xs r va &&& 4=a4 at *
    generalize Qa9 xs r va / 256=p8 at *
    generalize Qa9 xs r va=pte at *
    generalize Qcn ac=C at *
    generalize wsv xs=XX at *
    generalize mpg n=MP at *
    refine fnW Tryz.func58 ?_
    (repeat' ((conv=>whnf);first|(intro hb;first|exact zk0 hb|(try (replace hb:=zn0 hb)))|(with_reducible first|refine zv e9 ?_|refine zv e0 ?_|refine zv e1 ?_|refine zv e2 ?_|refine zv e3 ?_|refine zv e4 ?_|refine zv e5 ?_|refine zv e6 ?_|refine zv b1 ?_|refine zv b2 ?_|refine zv b4 ?_|refine zv s1 ?_|refine zv s2 ?_)|((with_reducible apply Vl.mk (α:=Nat)); · with_reducible exact x1)|((with_reducible apply Ge.mk (α:=SV)); · exact hge)|(refine zpu cc ?_)|(refine zpu ck ?_)|(refine Qay cp ?_)|refine zst ?_|refine zbx ?_ ?_|refine zgx ?_ ?_));(all_goals (try (conv=>whnf)))
    all_goals first|exact QaU rfl hsx rfl rfl
   ·rw [Qcr (fun h=>h34 ⟨h.2.2.2.1,h.2.2.2.2⟩)]
    have h34':¬ ((Qa9 xs r va &&& 1≠0∧(ac=3→Qa9 xs r va &&& 2≠0)∧(ac=1→Qa9 xs r va &&& 4≠0))∧frW (Qa9 xs r va)<mpg n):=fun h=>h34 ⟨decide_eq_true h.1,h.2⟩
    clear h34
    generalize Qbc r va=E at *
    generalize frW (Qa9 xs r va)=F at *
    generalize Qa9 xs r va &&& 1=a1 at *
    generalize Qa9 xs r va &&& 2=a2 at *
    generalize Qa9 xs r va &&& 4=a4 at *
    generalize Qa9 xs r va / 256=p8 at *
    generalize Qa9 xs r va=pte at *
    generalize Qcn ac=C at *
    generalize wsv xs=XX at *
    generalize mpg n=MP at *
    by_cases q1:a1=0
    ·subst q1
     clear h34'
     refine fnW Tryz.func58 ?_
     (repeat' ((conv=>whnf);first|(intro hb;first|exact zk0 hb|(try (replace hb:=zn0 hb)))|(with_reducible first|refine zv e9 ?_|refine zv e0 ?_|refine zv e1 ?_|refine zv e2 ?_|refine zv e3 ?_|refine zv b1 ?_|refine zv b2 ?_|refine zv b4 ?_|refine zv s1 ?_|refine zv s2 ?_)|((with_reducible apply Vl.mk (α:=Nat)); · with_reducible exact x1)|((with_reducible apply Ge.mk (α:=SV)); · exact hge)|(refine zpu cc ?_)|(refine zpu ck ?_)|(refine Qay cp ?_)|refine zst ?_|refine zbx ?_ ?_|refine zgx ?_ ?_));(all_goals (try (conv=>whnf)))
     all_goals first|exact QaU rfl hsx rfl rfl
    by_cases q2:ac=3∧a2=0
    ·obtain ⟨rfl,rfl⟩:=q2
     clear h34'
     refine fnW Tryz.func58 ?_
     (repeat' ((conv=>whnf);first|(intro hb;first|exact zk0 hb|(try (replace hb:=zn0 hb)))|(with_reducible first|refine zv e9 ?_|refine zv e0 ?_|refine zv e1 ?_|refine zv e2 ?_|refine zv e3 ?_|refine zv b1 ?_|refine zv b2 ?_|refine zv b4 ?_|refine zv s1 ?_|refine zv s2 ?_)|((with_reducible apply Vl.mk (α:=Nat)); · with_reducible exact x1)|((with_reducible apply Ge.mk (α:=SV)); · exact hge)|(refine zpu cc ?_)|(refine zpu ck ?_)|(refine Qay cp ?_)|refine zst ?_|refine zbx ?_ ?_|refine zgx ?_ ?_));(all_goals (try (conv=>whnf)))
     all_goals first|exact QaU rfl hsx rfl rfl
    by_cases q3:ac=1∧a4=0
    ·obtain ⟨rfl,rfl⟩:=q3
     clear h34'
     refine fnW Tryz.func58 ?_
     (repeat' ((conv=>whnf);first|(intro hb;first|exact zk0 hb|(try (replace hb:=zn0 hb)))|(with_reducible first|refine zv e9 ?_|refine zv e0 ?_|refine zv e1 ?_|refine zv e2 ?_|refine zv e3 ?_|refine zv b1 ?_|refine zv b2 ?_|refine zv b4 ?_|refine zv s1 ?_|refine zv s2 ?_)|((with_reducible apply Vl.mk (α:=Nat)); · with_reducible exact x1)|((with_reducible apply Ge.mk (α:=SV)); · exact hge)|(refine zpu cc ?_)|(refine zpu ck ?_)|(refine Qay cp ?_)|refine zst ?_|refine zbx ?_ ?_|refine zgx ?_ ?_));(all_goals (try (conv=>whnf)))
     all_goals first|exact QaU rfl hsx rfl rfl
    have q4:MP≤F:=by
     rcases Nat.lt_or_ge F MP with h|h
     ·exact absurd ⟨⟨q1,fun e z=>q2 ⟨e,z⟩,fun e z=>q3 ⟨e,z⟩⟩,h⟩ h34'
     ·exact h
    clear h34'
    refine fnW Tryz.func58 ?_
    (repeat' ((conv=>whnf);first|(intro hb;first|exact zk0 hb|(try (replace hb:=zn0 hb)))|(with_reducible first|refine zv e9 ?_|refine zv e0 ?_|refine zv e1 ?_|refine zv e2 ?_|refine zv e3 ?_|refine zv b1 ?_|refine zv b2 ?_|refine zv b4 ?_|refine zv s1 ?_|refine zv s2 ?_)|((with_reducible apply Vl.mk (α:=Nat)); · with_reducible exact x1)|((with_reducible apply Ge.mk (α:=SV)); · exact hge)|(refine zpu cc ?_)|(refine zpu ck ?_)|(refine Qay cp ?_)|refine zst ?_|refine zbx ?_ ?_|refine zgx ?_ ?_));(all_goals (try (conv=>whnf)))
    all_goals first|exact QaU rfl hsx rfl rfl
  ·rw [Qcr (fun h=>h12 ⟨h.2.1,h.2.2.1⟩)]
   generalize mpg n=MP at *
   generalize Qcn ac=C at *
   generalize wsv xs=XX at *
   refine fnW Tryz.func58 ?_
   (repeat' ((conv=>whnf);first|(intro hb;first|exact zk0 hb|(try (replace hb:=zn0 hb)))|(with_reducible refine zv e9 ?_)|(refine zpu cc ?_)|(refine zpu ck ?_)|(refine Qay cp ?_)|refine zst ?_|refine zbx ?_ ?_|refine zgx ?_ ?_));(all_goals (try (conv=>whnf)))
   all_goals first|exact QaU rfl hsx rfl rfl
theorem QdW (xs:List Nat) (n a:Nat) (hn:n<4294967296) (ha:a<4294967296):Fn Tryz.prog 56 [.s (.sl 0 0 n),.s (.int .u32 a),.s (.int .i64 1)] [⟨false,1,wsv xs⟩] (· =⟨.a (.s (.bool (ld1 n a))),[],[]⟩):=by
 have hm:=Qbe n
 have hp:=QbN xs n hn
 have hsx:=Qaa xs
 unfold ld1
 generalize mpg n=P at *
 generalize wsv xs=XX at *
 refine fnW Tryz.func56 ?_
 (repeat' ((conv=>whnf);first|(intro hb;first|exact zk0 hb|(try (replace hb:=zn0 hb)))|(refine Qay hp ?_)|refine zst ?_|refine zbx ?_ ?_|refine zgx ?_ ?_));(all_goals (try (conv=>whnf)))
 all_goals
  refine QaU rfl hsx rfl ?_
  simp only [Qa7]
  congr 3
  refine Eq.symm ?_
  first
   | (exact decide_eq_false (by omega))
   | (rw [Bool.eq_iff_iff,decide_eq_true_eq,decide_eq_true_eq];omega)
theorem QhN (xs:List Nat) (n a:Nat) (sz:Int) (hsz:sz=1∨sz=4) (hn:n<4294967296) (ha:a<4294967296):Fn Tryz.prog 56 [.s (.sl 0 0 n),.s (.int .u32 a),.s (.int .i64 sz)] [⟨false,1,wsv xs⟩] (· =⟨.a (.s (.bool (acB sz n a))),[],[]⟩):=by
 rcases hsz with rfl|rfl
 ·exact QdW xs n a hn ha
 ·exact Qch xs n a hn ha
theorem QcM (xs:List Nat) (n a:Nat) (hn:n<4294967296) (ha:a<4294967296) (hl:xs.length=n) (hld:ld4 n a=true):Fn Tryz.prog 30 [.s (.sl 0 0 n),.s (.int .u32 a),.s (.int .i64 4)] [⟨false,1,wsv xs⟩] (· =⟨.tup [.s (.int .u32 (xs.getD (a / 4) 0:Nat)),.s (.bool true)],[],[]⟩):=by
 have hw:=Qch xs n a hn ha
 rw [hld] at hw
 have hln:=QdJ hld
 have hg:=Qbf xs (a / 4) (by omega)
 refine fnW Tryz.func30 ?_
 (repeat' ((conv=>whnf);first|(intro hb;first|exact zk0 hb|(try (replace hb:=zn0 hb)))|(refine Qal (f:=56) hw [⟨0,0⟩] [(0,⟨false,1,wsv xs⟩)] rfl ⟨rfl,trivial⟩ ⟨rfl,Qaw (Qaa _),trivial⟩ ⟨rfl,QdP⟩ ?_)|(apply Sd.mk; · omega)|((with_reducible apply Vl.mk (α:=Nat)); · exact ldi a)|((with_reducible apply Ge.mk (α:=SV)); · exact hg)|refine zs0 ?_|refine zbx ?_ ?_|refine zgx ?_ ?_));(all_goals (try (conv=>whnf)))
 all_goals first|exact QaU rfl (Qaa _) rfl rfl
theorem QCh (w a:Nat) (hw:w<4294967296):bits .and .u32 ((w:Int) / 2^min (((a%4*8:Nat):Int)).toNat IntKind.u32.bits) 255=((byN w a:Nat):Int):=Qdk w (a%4*8) 8 hw (by omega) (by omega)
theorem at8 (a:Nat):IntKind.u32.wrap (8*((a%4:Nat):Int))=((a%4*8:Nat):Int):=by rw [Qcf (by omega) (by omega)];omega
theorem QC8 (w:Int) (l:Nat):w / 2^min ((l:Nat):Int).toNat IntKind.u32.bits=w / 2^min ((l:Nat):Int).toNat IntKind.u32.bits:=rfl
theorem Qj3 (xs:List Nat) (n a:Nat) (hn:n<4294967296) (ha:a<4294967296) (hl:xs.length=n) (hx:∀ x∈xs,x<4294967296) (hld:ld1 n a=true):Fn Tryz.prog 30 [.s (.sl 0 0 n),.s (.int .u32 a),.s (.int .i64 1)] [⟨false,1,wsv xs⟩] (· =⟨.tup [.s (.int .u32 (byN (xs.getD (a / 4) 0) a:Nat)),.s (.bool true)],[],[]⟩):=by
 have hw:=QdW xs n a hn ha
 rw [hld] at hw
 have hln:=Qfr hld
 have hg:=Qbf xs (a / 4) (by omega)
 have hb1:=QCh (xs.getD (a / 4) 0) a (Qux hx _)
 have h8:=at8 a
 have ha4:=Qxg a
 generalize xs.getD (a / 4) 0=W at *
 have hsk:=QC8 (W:Int) (a%4*8)
 generalize byN W a=B at *
 generalize hQ:a%4*8=Q at *
 generalize hR:a%4=R4 at *
 refine fnW Tryz.func30 ?_
 (repeat' ((conv=>whnf);first|(intro hb;first|exact zk0 hb|(try (replace hb:=zn0 hb)))|(refine Qal (f:=56) hw [⟨0,0⟩] [(0,⟨false,1,wsv xs⟩)] rfl ⟨rfl,trivial⟩ ⟨rfl,Qaw (Qaa _),trivial⟩ ⟨rfl,QdP⟩ ?_)|(apply Sd.mk; · omega)|((with_reducible apply Vl.mk (α:=Nat)); · exact ldi a)|((with_reducible apply Ge.mk (α:=SV)); · exact hg)|(with_reducible first|refine zv ha4 ?_|refine zv h8 ?_|refine zv hsk ?_|refine zv hb1 ?_)|refine zs0 ?_|refine zbx ?_ ?_|refine zgx ?_ ?_));(all_goals (try (conv=>whnf)))
 all_goals first|exact QaU rfl (Qaa _) rfl rfl
theorem Qog (xs:List Nat) (n a v:Nat) (ha:a<4294967296) (hl:xs.length=n) (hld:ld4 n a=true):Fn Tryz.prog 94 [.s (.sl 0 0 n),.s (.int .u32 a),.s (.int .i64 4),.s (.int .u32 v)] [⟨true,1,wsv xs⟩] (· =⟨.tup [],[(0,some ⟨true,1,wsv (xs.set (a / 4) v)⟩)],[]⟩):=by
 have hln:=QdJ hld
 have hset:=Qbv xs (a / 4) v (by omega)
 have hlw:(wsv xs).length=n:=by simp [hl]
 have hsc2:Qau (wsv (xs.set (a / 4) v))=true:=Qaa _
 generalize wsv (xs.set (a / 4) v)=X2 at *
 generalize wsv xs=M at *
 refine fnW Tryz.func94 ?_
 (repeat' ((conv=>whnf);first|(intro hb;first|exact zk0 hb|(try (replace hb:=zn0 hb)))|(apply Sd.mk; · omega)|(apply Sd.mk; · refine ⟨rfl,rfl,rfl,?_⟩;show _≤M.length;simp;omega)|((with_reducible apply Vl.mk (α:=Nat)); · exact ldi a)|((with_reducible apply Vl.mk (α:=List SV)); · with_reducible exact hset)|refine zs0 ?_|refine zbx ?_ ?_|refine zgx ?_ ?_));(all_goals (try (conv=>whnf)))
 all_goals exact Qbr
theorem Qi4 (xs:List Nat) (n a v:Nat) (ha:a<4294967296) (hl:xs.length=n) (hld:ld1 n a=true):Fn Tryz.prog 94 [.s (.sl 0 0 n),.s (.int .u32 a),.s (.int .i64 1),.s (.int .u32 v)] [⟨true,1,wsv xs⟩] (· =⟨.tup [],[(0,some ⟨true,1,wsv (Qio xs a v)⟩)],[]⟩):=by
 have hln:=Qfr hld
 have hg:=Qbf xs (a / 4) (by omega)
 have hset:=Qbv xs (a / 4) (sfN (xs.getD (a / 4) 0) (a%4*8) v) (by omega)
 change QaF _ _ _=wsv (Qio xs a v) at hset
 have hsf:=(Qjd (xs.getD (a / 4) 0) (a%4*8) v).symm
 unfold sfI at hsf
 have e1:IntKind.u32.wrap (255*2^min ((a%4*8:Nat):Int).toNat IntKind.u32.bits)=IntKind.u32.wrap (255*2^min ((a%4*8:Nat):Int).toNat IntKind.u32.bits):=rfl
 have e2:IntKind.u32.wrap (bits .and .u32 (v:Int) 255*2^min ((a%4*8:Nat):Int).toNat IntKind.u32.bits)=IntKind.u32.wrap (bits .and .u32 (v:Int) 255*2^min ((a%4*8:Nat):Int).toNat IntKind.u32.bits):=rfl
 have hlw:(wsv xs).length=n:=by simp [hl]
 have hsc2:Qau (wsv (Qio xs a v))=true:=Qaa _
 have h8:=at8 a
 have ha4:=Qxg a
 generalize sfN (xs.getD (a / 4) 0) (a%4*8) v=V at *
 generalize wsv (Qio xs a v)=X2 at *
 generalize xs.getD (a / 4) 0=W at *
 generalize wsv xs=M at *
 generalize hQ:a%4*8=Q at *
 refine fnW Tryz.func94 ?_
 (repeat' ((conv=>whnf);first|(intro hb;first|exact zk0 hb|(try (replace hb:=zn0 hb)))|(apply Sd.mk; · omega)|(apply Sd.mk; · refine ⟨rfl,rfl,rfl,?_⟩;show _≤M.length;simp;omega)|((with_reducible apply Vl.mk (α:=Nat)); · exact ldi a)|((with_reducible apply Ge.mk (α:=SV)); · exact hg)|(with_reducible first|refine zv ha4 ?_|refine zv h8 ?_|refine zv e1 ?_|refine zv e2 ?_|refine zv hsf ?_)|((with_reducible apply Vl.mk (α:=List SV)); · with_reducible exact hset)|refine zs0 ?_|refine zbx ?_ ?_|refine zgx ?_ ?_));(all_goals (try (conv=>whnf)))
 all_goals exact Qbr
theorem QgY (o:Int) (a b:Nat) (ha:a<4294967296) (hb0:b<4294967296):Fn Tryz.prog 93 [.s (.int .i64 o),.s (.int .u32 a),.s (.int .u32 b)] [] (· =⟨.a (.s (.bool (Qfu o a b))),[],[]⟩):=by
 refine fnW Tryz.func93 ?_
 (repeat' ((conv=>whnf);first|(intro hb;first|exact zk0 hb|(try (replace hb:=zn0 hb)))|(with_reducible first|refine zv (Qbl _ ha) ?_|refine zv (Qbl _ hb0) ?_)|refine zs0 ?_|refine zbx ?_ ?_|refine zgx ?_ ?_));(all_goals (try (conv=>whnf)))
 all_goals
  apply Qan
  (focus rfl)
  simp only [Qa7]
  congr 3
  first
   | (subst hb;simp [Qfu];done)
   | (subst hb;simp [Qfu];omega)
   | (unfold Qfu;rw [if_neg (by omega),if_neg (by omega),if_neg (by omega),if_neg (by omega),if_neg (by omega)];simp;done)
   | (subst hb;rw [Bool.eq_iff_iff];simp [Qfu];done)
   | (subst hb;rw [Bool.eq_iff_iff];simp [Qfu];omega)
theorem QB0 (x:Nat) (hx:x<4294967296):bits .and .u32 (x:Int) (256-1)=((x%256:Nat):Int):=Qbu x 8 hx (by omega)
theorem QA6 (x:Nat) (hx:x<256):(x:Int) / 2^min ((8:Int)-1).toNat IntKind.u32.bits=((x / 128:Nat):Int):=by
 rw [show (2:Int)^min ((8:Int)-1).toNat IntKind.u32.bits=128 from rfl];omega
theorem QBV (x:Nat) (hx:x<256):bits .or .u32 (x:Int) 4294967040=((x+4294967040:Nat):Int):=by
 have:=Qlq x 4294967040 (by omega) (by omega)
 have e:x ||| 4294967040=x+4294967040:=by
  rw [Nat.or_comm,show 4294967040=2^8*16777215 from rfl,← Nat.two_pow_add_eq_or_of_lt (i:=8) (show x<2^8 by omega)]
  omega
 rw [e] at this;exact this
theorem QrQ (x:Nat) (hx:x<4294967296):Fn Tryz.prog 95 [.s (.int .u32 x),.s (.int .i64 8)] [] (· =⟨.a (.s (.int .u32 (sx8 x:Nat))),[],[]⟩):=by
 have r1:=QB0 x hx
 have r2:=QA6 (x%256) (by omega)
 have r3:=QBV (x%256) (by omega)
 have m1:IntKind.u32.wrap (1*2^min (Int.toNat 8) IntKind.u32.bits)=256:=rfl
 have m2:IntKind.u32.wrap (4294967295*2^min (Int.toNat 8) IntKind.u32.bits)=4294967040:=rfl
 refine fnW Tryz.func95 ?_
 (repeat' ((conv=>whnf);first|(intro hb;first|exact zk0 hb|(try (replace hb:=zn0 hb)))|(with_reducible first|refine zv r1 ?_|refine zv r2 ?_|refine zv r3 ?_|refine zv m1 ?_|refine zv m2 ?_)|refine zs0 ?_|refine zbx ?_ ?_|refine zgx ?_ ?_));(all_goals (try (conv=>whnf)))
 all_goals
  refine Qan rfl ?_
  simp only [Qa7,sx8]
  first
   | (rw [if_pos (by omega)];done)
   | (rw [if_neg (by omega)];done)
theorem Qc9 (x:List Nat) (pc:Nat) (c:List Nat) (r v:Nat) (hx:x.length=16) (hc:c.length=8) (hr:r<16):Fn Tryz.prog 74 [.agg (Qao x pc c),.s (.int .i64 r),.s (.int .u32 v)] [] (· =⟨.a (.agg (Qao (QaE x r v) pc c)),[],[]⟩):=by
 have hw:=Qfo x pc c r v hx hr
 have hlCC:=Qai (x) (pc) (c) hx hc
 have hsCC:=Qae (x) (pc) (c)
 have hkCC:=Qab (x) (pc) (c)
 have hzCC:=Qac hlCC
 have gpCC:=Qas (x) (pc) (c) hx
 have hlC2:=Qai (x.set r v) (pc) (c) (by simpa using hx) hc
 have hsC2:=Qae (x.set r v) (pc) (c)
 have hkC2:=Qab (x.set r v) (pc) (c)
 have hzC2:=Qac hlC2
 have gpC2:=Qas (x.set r v) (pc) (c) (by simpa using hx)
 unfold QaE
 by_cases h:r=0
 ·rw [if_pos h]
  subst h
  generalize Qao (x) (pc) (c)=CC at *
  refine fnW Tryz.func74 ?_
  (repeat' ((conv=>whnf);first|(intro hb;first|exact zk2 hb|(try (replace hb:=zn0 hb)))|(apply Sd.mk; · first|exact ⟨hlCC,hkCC,rfl,(by show 0+CC.length≤25;omega)⟩|(refine ⟨rfl,rfl,rfl,?_⟩;show 0+16+1≤CC.length;omega))|((with_reducible apply Vl.mk (α:=List SV)); · first|exact hzCC _ (by first|rfl|assumption))|(apply Sg.mk; · first|exact Qaj CC hlCC)|((with_reducible apply Ge.mk (α:=SV)); · first|exact gpCC)|refine zst ?_|refine zbx ?_ ?_|refine zgx ?_ ?_|refine eqR ?_));(all_goals (try (conv=>whnf)))
  all_goals exact zF_
 ·rw [if_neg h]
  generalize Qao (x.set r v) (pc) (c)=C2 at *
  generalize Qao (x) (pc) (c)=CC at *
  refine fnW Tryz.func74 ?_
  (repeat' ((conv=>whnf);first|(intro hb;first|exact zk2 hb|(try (replace hb:=zn0 hb)))|(apply Sd.mk; · first|exact ⟨hlCC,hkCC,rfl,(by show 0+CC.length≤25;omega)⟩|exact ⟨hlC2,hkC2,rfl,(by show 0+C2.length≤25;omega)⟩|exact ⟨hlCC,hkCC,rfl,(by show 0+CC.length≤C2.length;omega)⟩|exact ⟨hlC2,hkC2,rfl,(by show 0+C2.length≤CC.length;omega)⟩|(show (0:Int)≤r∧(r:Int)<16;omega)|(refine ⟨rfl,rfl,rfl,?_⟩;show r+1≤CC.length;omega)|(refine ⟨rfl,rfl,rfl,?_⟩;show 0+16+1≤CC.length;omega)|(refine ⟨rfl,rfl,rfl,?_⟩;show 0+16+1≤C2.length;omega))|((with_reducible apply Vl.mk (α:=List SV)); · first|exact hw|exact hzCC _ (by first|rfl|assumption)|exact hzC2 _ (by first|rfl|assumption))|(apply Sg.mk; · first|exact Qaj CC hlCC|exact Qaj C2 hlC2)|((with_reducible apply Ge.mk (α:=SV)); · first|exact gpCC|exact gpC2)|refine zst ?_|refine zbx ?_ ?_|refine zgx ?_ ?_|refine eqR ?_));(all_goals (try (conv=>whnf)))
  all_goals exact zF_
theorem QvN (a:Nat) (ha:a<4294967296):bits .and .u32 (a:Int) 5=((a%2+a / 4%2*4:Nat):Int):=by
 rw [show ((5:Int))=((5:Nat):Int) from rfl,Qex a 5 ha (by omega)]
 obtain ⟨h,l,hl,rfl⟩:=Qe7 a
 rw [Qel h l 5 hl (by decide)]
 have e:∀ l:Nat,l<32→l &&& 5=l%2+l / 4%2*4:=by decide
 rw [e l hl]
 congr 1
 omega
theorem QlL (x:List Nat) (pc:Nat) (c:List Nat) (hx:x.length=16) (hc:c.length=8) (hs:c.getD 0 0<4294967296):Fn Tryz.prog 55 [.agg (Qao x pc c)] [] (· =⟨.a (.s (.bool (Qjj (c.getD 0 0)))),[],[]⟩):=by
 have g0:=Qct x pc c 0 hx hc (by decide)
 have b5:=QvN (c.getD 0 0) hs
 have hlCC:=Qai (x) (pc) (c) hx hc
 have hsCC:=Qae (x) (pc) (c)
 have hkCC:=Qab (x) (pc) (c)
 have hzCC:=Qac hlCC
 have gpCC:=Qas (x) (pc) (c) hx
 generalize c.getD 0 0=S at *
 generalize Qao (x) (pc) (c)=CC at *
 obtain ⟨T,hT,hP⟩:∃ T:Nat,S%2+S / 4%2*4=T∧(((T:Nat):Int)==4)=Qjj S:=by
  refine ⟨_,rfl,?_⟩
  unfold Qjj
  rw [Bool.eq_iff_iff,beq_iff_eq,decide_eq_true_eq]
  omega
 rw [hT] at b5
 rw [← hP]
 refine fnW Tryz.func55 ?_
 (repeat' ((conv=>whnf);first|(intro hb;first|exact zk0 hb|(try (replace hb:=zn0 hb)))|(with_reducible refine zv b5 ?_)|((with_reducible apply Ge.mk (α:=SV)); · exact g0)|(apply Sd.mk; · first|exact ⟨hlCC,hkCC,rfl,(by show 0+CC.length≤25;omega)⟩|(refine ⟨rfl,rfl,rfl,?_⟩;show 0+16+1≤CC.length;omega))|((with_reducible apply Vl.mk (α:=List SV)); · first|exact hzCC _ (by first|rfl|assumption))|(apply Sg.mk; · first|exact Qaj CC hlCC)|((with_reducible apply Ge.mk (α:=SV)); · first|exact gpCC)|refine zst ?_|refine zbx ?_ ?_|refine zgx ?_ ?_));(all_goals (try (conv=>whnf)))
 all_goals exact zf_
theorem QcB (x:List Nat) (pc:Nat) (c:List Nat) (xs:List Nat) (n va:Nat) (sz ac:Int) (hx:x.length=16) (hc:c.length=8) (hcl:∀ y∈c,y<4294967296) (hl:xs.length=n) (hxr:∀ y∈xs,y<4294967296) (hn:n<4294967296) (hva:va<4294967296) :
  Fn Tryz.prog 29 [.agg (Qao x pc c),.s (.sl 0 0 n),.s (.int .u32 va),.s (.int .i64 sz),.s (.int .i64 ac)] [⟨true,1,wsv xs⟩]
   (· =⟨.tup [.s (.int .u32 (rsA xs n (c.getD 0 0) (c.getD 6 0) va sz ac:Nat)),.s (.int .i64 (rsK xs n (c.getD 0 0) (c.getD 6 0) va sz ac))],[(0,some ⟨true,1,wsv (rsM xs n (c.getD 0 0) (c.getD 6 0) va sz ac)⟩)],[]⟩):=by
 have hs:=Qad hcl 0
 have hr:=Qad hcl 6
 have hk:=QlL x pc c hx hc hs
 have g0:=Qct x pc c 0 hx hc (by decide)
 have g6:=Qct x pc c 6 hx hc (by decide)
 have hCl:=Qai x pc c hx hc
 have hCs:=Qae x pc c
 have hCk:=Qab x pc c
 have hcc:=QgK ac
 have hcl2:=Qhd ac
 have hz0:=Qac hCl
 generalize c.getD 0 0=S at *
 generalize c.getD 6 0=R at *
 generalize Qao x pc c=C at *
 have hw:=QlA xs n R va ac hl hn hxr hr hva
 have hsx:=Qaa xs
 clear hcl hx hc
 by_cases hkn:QcY ac=true∧szB sz=true
 case neg =>
  have e1:rsO xs n S R va sz ac=false:=by
   unfold rsO
   cases h:QcY ac with
   | false=>rfl
   | true =>
    cases h2:szB sz with
    | false=>rfl
    | true=>exact absurd ⟨h,h2⟩ hkn
  have e2:QcY ac=false∨szB sz=false:=by
   cases h:QcY ac with
   | false=>exact .inl rfl
   | true =>
    cases h2:szB sz with
    | false=>exact .inr rfl
    | true=>exact absurd ⟨h,h2⟩ hkn
  rw [show rsA xs n S R va sz ac=0 by unfold rsA;rw [e1];rfl,show rsM xs n S R va sz ac=xs by unfold rsM;rw [e1];exact if_neg (fun h=>by cases h.1),show rsK xs n S R va sz ac=5 by unfold rsK;rw [e1,if_neg (by decide),if_pos e2]]
  have hz:szB sz=false→sz≠1∧sz≠4:=fun h=>by unfold szB at h;simpa using h
  generalize QcY ac=kb at *
  generalize wsv xs=XX at *
  cases kb with
  | false =>
   clear hw hz
   refine fnW Tryz.func29 ?_
   (repeat' ((conv=>whnf);first|(intro hb;first|exact zk2 hb|(try (replace hb:=zn0 hb)))|(refine zpu hcc ?_)|(refine zpu hcl2 ?_)|refine zst ?_|refine zbx ?_ ?_|refine zgx ?_ ?_|refine eqR ?_));(all_goals (try (conv=>whnf)))
   all_goals first|(exfalso;simp at hb;done)|(exact Qbr)
  | true =>
   obtain ⟨z1,z2⟩:=hz (by rcases e2 with h|h;cases h;exact h)
   clear hw
   refine fnW Tryz.func29 ?_
   (repeat' ((conv=>whnf);first|(intro hb;first|exact zk2 hb|(try (replace hb:=zn0 hb)))|(refine zpu hcc ?_)|(refine zpu hcl2 ?_)|refine zst ?_|refine zbx ?_ ?_|refine zgx ?_ ?_|refine eqR ?_));(all_goals (try (conv=>whnf)))
   all_goals first|(exfalso;simp at hb;done)|(exfalso;omega)|(exact Qbr)
 obtain ⟨k1,k2⟩:=hkn
 rw [k1] at hcl2
 have hsz:sz=1∨sz=4:=by unfold szB at k2;simpa using k2
 by_cases hal:(va:Int)%sz=0
 case neg =>
  have e1:rsO xs n S R va sz ac=false:=by unfold rsO;rw [decide_eq_false hal,Bool.and_false];rfl
  rw [show rsA xs n S R va sz ac=0 by unfold rsA;rw [e1];rfl,show rsM xs n S R va sz ac=xs by unfold rsM;rw [e1];exact if_neg (fun h=>by cases h.1),show rsK xs n S R va sz ac=3 by unfold rsK;rw [e1,if_neg (by decide),if_neg (by rw [k1,k2];simp),if_neg hal]]
  obtain rfl:sz=4:=by rcases hsz with rfl|rfl;omega;rfl
  have m1:Int.tmod (va:Int) 4=((va%4:Nat):Int):=by rw [Int.tmod_eq_emod_of_nonneg (by omega)];omega
  have m2:va%4≠0:=by omega
  generalize va%4=va4 at *
  generalize wsv xs=XX at *
  clear hw
  refine fnW Tryz.func29 ?_
  (repeat' ((conv=>whnf);first|(intro hb;first|exact zk2 hb|(try (replace hb:=zn0 hb)))|(with_reducible refine zv m1 ?_)|(refine zpu hcc ?_)|(refine zpu hcl2 ?_)|refine zst ?_|refine zbx ?_ ?_|refine zgx ?_ ?_|refine eqR ?_));(all_goals (try (conv=>whnf)))
  all_goals first|(exfalso;simp at hb;done)|(exfalso;omega)|(exact Qbr)
 have hlo:=QhN xs n va sz hsz hn hva
 have m0:Int.tmod (va:Int) sz=0:=by rw [Int.tmod_eq_emod_of_nonneg (by omega)];exact hal
 cases hpg:Qjj S with
 | true =>
  obtain ⟨p1,p2⟩:S%2=0∧S / 4%2=1:=by unfold Qjj at hpg;simpa using hpg
  rw [hpg] at hk
  cases hok:Qfv xs n R va ac with
  | false =>
   have e1:rsO xs n S R va sz ac=false:=by unfold rsO;rw [hpg,hok];simp
   rw [show rsA xs n S R va sz ac=0 by unfold rsA;rw [e1];rfl,show rsM xs n S R va sz ac=xs by unfold rsM;rw [e1];exact if_neg (fun h=>by cases h.1),show rsK xs n S R va sz ac=Qcn ac by unfold rsK;rw [e1,if_neg (by decide),if_neg (by rw [k1,k2];simp),if_pos hal]]
   unfold Qho at hw
   rw [hok,if_neg (by decide)] at hw
   have hcz:Qcn ac≠0:=by unfold Qcn;split;omega;split<;>omega
   generalize Qcn ac=cz at *
   generalize wsv xs=XX at *
   rcases hsz with rfl|rfl
   all_goals
    refine fnW Tryz.func29 ?_
    (repeat' ((conv=>whnf);first|(intro hb;first|exact zk2 hb|(try (replace hb:=zn0 hb)))|(with_reducible refine zv m0 ?_)|((with_reducible apply Ge.mk (α:=SV)); · first|exact g0|exact g6)|(apply Sg.mk; · exact Qaj C hCl)|((with_reducible apply Vl.mk (α:=List SV)); · exact hz0 _ rfl)|(apply Sd.mk; · exact ⟨hCl,hCk,rfl,(by show 0+C.length≤25;omega)⟩)|(refine zpu hcc ?_)|(refine zpu hk ?_)|(refine Qay hw ?_)|(refine zpu hcl2 ?_)|refine zst ?_|refine zbx ?_ ?_|refine zgx ?_ ?_|refine eqR ?_));(all_goals (try (conv=>whnf)))
    all_goals first|(exfalso;simp at hb;done)|(exfalso;omega)|(exact Qbr)
  | true =>
   have e1:rsO xs n S R va sz ac=true:=by unfold rsO;rw [hpg,hok,k1,k2,decide_eq_true hal];rfl
   obtain ⟨l1,l2,l3⟩:=QpW hok hn
   have htc:=Qna xs n (Qbc R va) ac hl hn hxr l2 l1
   rw [show rsA xs n S R va sz ac=frW (Qa9 xs R va)*128+va%128 by unfold rsA;rw [e1,if_pos rfl,hpg,if_pos rfl],show rsM xs n S R va sz ac=xs.set (Qbc R va / 4) (Qfg (xs.getD (Qbc R va / 4) 0) ac) by unfold rsM;rw [e1,hpg];exact if_pos ⟨rfl,rfl⟩,show rsK xs n S R va sz ac=0 by unfold rsK;rw [e1,if_pos rfl]]
   unfold Qho at hw
   rw [hok,if_pos rfl] at hw
   have hs2:=Qaa (xs.set (Qbc R va / 4) (Qfg (xs.getD (Qbc R va / 4) 0) ac))
   generalize wsv (xs.set (Qbc R va / 4) (Qfg (xs.getD (Qbc R va / 4) 0) ac))=X2 at *
   generalize Qbc R va=E at *
   generalize frW (Qa9 xs R va)*128+va%128=AA at *
   generalize Qcn ac=cz at *
   generalize wsv xs=XX at *
   rcases hsz with rfl|rfl
   all_goals
    refine fnW Tryz.func29 ?_
    (repeat' ((conv=>whnf);first|(intro hb;first|exact zk2 hb|(try (replace hb:=zn0 hb)))|(with_reducible refine zv m0 ?_)|((with_reducible apply Ge.mk (α:=SV)); · first|exact g0|exact g6)|(apply Sg.mk; · exact Qaj C hCl)|((with_reducible apply Vl.mk (α:=List SV)); · exact hz0 _ rfl)|(apply Sd.mk; · exact ⟨hCl,hCk,rfl,(by show 0+C.length≤25;omega)⟩)|(refine zpu hcc ?_)|(refine zpu hk ?_)|(refine Qay hw ?_)|(refine zpu hcl2 ?_)|(refine QbY htc ?_)|refine zst ?_|refine zbx ?_ ?_|refine zgx ?_ ?_|refine eqR ?_));(all_goals (try (conv=>whnf)))
    all_goals first|(exfalso;simp at hb;done)|(exfalso;omega)|(exact Qbr)
 | false =>
  have hnp:S%2=1∨(S%2=0∧S / 4%2=0):=by unfold Qjj at hpg;simp at hpg;omega
  have eM:rsM xs n S R va sz ac=xs:=by unfold rsM;rw [hpg];exact if_neg (fun h=>by cases h.2)
  have eO:rsO xs n S R va sz ac=acB sz n va:=by unfold rsO;rw [hpg,k1,k2,decide_eq_true hal];simp
  have eA:rsA xs n S R va sz ac=if acB sz n va=true then va else 0:=by unfold rsA;rw [eO,hpg];simp
  have eK:rsK xs n S R va sz ac=if acB sz n va=true then 0 else Qcn ac:=by unfold rsK;rw [eO,if_neg (c:=QcY ac=false∨szB sz=false) (by rw [k1,k2];simp),if_pos hal]
  rw [eM,eA,eK]
  clear eM eO eA eK hw
  generalize Qcn ac=cz at *
  generalize acB sz n va=ok at *
  generalize wsv xs=XX at *
  rw [hpg] at hk
  cases ok<;>rcases hsz with rfl|rfl
  all_goals
   refine fnW Tryz.func29 ?_
   (repeat' ((conv=>whnf);first|(intro hb;first|exact zk2 hb|(try (replace hb:=zn0 hb)))|(with_reducible refine zv m0 ?_)|((with_reducible apply Ge.mk (α:=SV)); · first|exact g0|exact g6)|(apply Sg.mk; · exact Qaj C hCl)|((with_reducible apply Vl.mk (α:=List SV)); · exact hz0 _ rfl)|(apply Sd.mk; · exact ⟨hCl,hCk,rfl,(by show 0+C.length≤25;omega)⟩)|(refine zpu hcc ?_)|(refine zpu hk ?_)|(refine Qay hlo ?_)|(refine zpu hcl2 ?_)|refine zst ?_|refine zbx ?_ ?_|refine zgx ?_ ?_|refine eqR ?_));(all_goals (try (conv=>whnf)))
   all_goals first|(exfalso;simp at hb;done)|(exfalso;omega)|(exact Qbr)
theorem Qic (x:List Nat) (pc:Nat) (c:List Nat) (xs:List Nat) (n va:Nat) (sz ac:Int) (hx:x.length=16) (hc:c.length=8) (hcl:∀ y∈c,y<4294967296) (hl:xs.length=n) (hxr:∀ y∈xs,y<4294967296) (hn:n<4294967296) (hva:va<4294967296) :
  Fn Tryz.prog 10 [.agg (Qao x pc c),.s (.sl 0 0 n),.s (.int .u32 va),.s (.int .i64 sz),.s (.int .i64 ac)] [⟨false,1,wsv xs⟩]
   (· =⟨.tup [.s (.int .u32 (rsA xs n (c.getD 0 0) (c.getD 6 0) va sz ac:Nat)),.s (.sl 1 0 n),.s (.int .i64 (rsK xs n (c.getD 0 0) (c.getD 6 0) va sz ac))],[],[⟨true,1,wsv (rsM xs n (c.getD 0 0) (c.getD 6 0) va sz ac)⟩]⟩):=by
 have hr:=QcB x pc c xs n va sz ac hx hc hcl hl hxr hn hva
 have hco:=Qeg xs n hl hn
 have hsx:=Qaa xs
 have hsm:=Qaa (rsM xs n (c.getD 0 0) (c.getD 6 0) va sz ac)
 have hlCC:=Qai (x) (pc) (c) hx hc
 have hsCC:=Qae (x) (pc) (c)
 have hkCC:=Qab (x) (pc) (c)
 have hzCC:=Qac hlCC
 have gpCC:=Qas (x) (pc) (c) hx
 generalize rsK xs n (c.getD 0 0) (c.getD 6 0) va sz ac=K at *
 generalize rsA xs n (c.getD 0 0) (c.getD 6 0) va sz ac=AA at *
 generalize wsv (rsM xs n (c.getD 0 0) (c.getD 6 0) va sz ac)=XM at *
 generalize wsv xs=XX at *
 generalize Qao (x) (pc) (c)=CC at *
 refine fnW Tryz.func10 ?_
 (repeat' ((conv=>whnf);first|(intro hb;first|exact zk2 hb|(try (replace hb:=zn0 hb)))|(apply Sd.mk; · first|exact ⟨hlCC,hkCC,rfl,(by show 0+CC.length≤25;omega)⟩|(refine ⟨rfl,rfl,rfl,?_⟩;show 0+16+1≤CC.length;omega))|((with_reducible apply Vl.mk (α:=List SV)); · first|exact hzCC _ (by first|rfl|assumption))|(apply Sg.mk; · first|exact Qaj CC hlCC)|((with_reducible apply Ge.mk (α:=SV)); · first|exact gpCC)|(refine Qay hco ?_)|(refine QbY hr ?_)|refine zst ?_|refine zbx ?_ ?_|refine zgx ?_ ?_|refine eqR ?_));(all_goals (try (conv=>whnf)))
 all_goals exact Qco
theorem Qk9 (x:List Nat) (pc:Nat) (c:List Nat) (xs:List Nat) (n:Nat) (hx:x.length=16) (hc:c.length=8) (hcl:∀ y∈c,y<4294967296) (hpc:pc<4294967296) (hl:xs.length=n) (hxr:∀ y∈xs,y<4294967296) (hn:n<4294967296) :
  Fn Tryz.prog 13 [.agg (Qao x pc c),.s (.sl 0 0 n)] [⟨false,1,wsv xs⟩]
   (· =⟨.tup [.s (.int .u32 (ftW xs n (c.getD 0 0) (c.getD 6 0) pc:Nat)),.s (.sl 1 0 n),.s (.int .i64 (rsK xs n (c.getD 0 0) (c.getD 6 0) pc 4 1))],[],[⟨true,1,wsv (rsM xs n (c.getD 0 0) (c.getD 6 0) pc 4 1)⟩]⟩):=by
 have hr:=QcB x pc c xs n pc 4 1 hx hc hcl hl hxr hn hpc
 have hco:=Qeg xs n hl hn
 have hlCC:=Qai (x) (pc) (c) hx hc
 have hsCC:=Qae (x) (pc) (c)
 have hkCC:=Qab (x) (pc) (c)
 have hzCC:=Qac hlCC
 have gpCC:=Qas (x) (pc) (c) hx
 generalize c.getD 0 0=S at *
 generalize c.getD 6 0=R at *
 have hsx:=Qaa xs
 have hsm:=Qaa (rsM xs n S R pc 4 1)
 unfold ftW
 by_cases hK:rsK xs n S R pc 4 1=0
 ·have hok:=QeG hK
  obtain ⟨ha,hb1⟩:=QeA hok hpc
  have hlo:=QcM (rsM xs n S R pc 4 1) n (rsA xs n S R pc 4 1) hn hb1 (by rw [Qa4];exact hl) ha
  rw [if_pos hK]
  rw [hK] at hr ⊢
  generalize rsA xs n S R pc 4 1=AA at *
  generalize (rsM xs n S R pc 4 1).getD (AA / 4) 0=W at *
  generalize wsv (rsM xs n S R pc 4 1)=XM at *
  generalize wsv xs=XX at *
  generalize Qao (x) (pc) (c)=CC at *
  refine fnW Tryz.func13 ?_
  (repeat' ((conv=>whnf);first|(intro hb;first|exact zk2 hb|(try (replace hb:=zn0 hb)))|(apply Sd.mk; · first|exact ⟨hlCC,hkCC,rfl,(by show 0+CC.length≤25;omega)⟩|(refine ⟨rfl,rfl,rfl,?_⟩;show 0+16+1≤CC.length;omega))|((with_reducible apply Vl.mk (α:=List SV)); · first|exact hzCC _ (by first|rfl|assumption))|(apply Sg.mk; · first|exact Qaj CC hlCC)|((with_reducible apply Ge.mk (α:=SV)); · first|exact gpCC)|(refine Qay hco ?_)|(refine QbY hr ?_)|(refine Qay hlo ?_)|refine zst ?_|refine zbx ?_ ?_|refine zgx ?_ ?_|refine eqR ?_));(all_goals (try (conv=>whnf)))
  all_goals exact Qco
 ·rw [if_neg hK]
  generalize rsK xs n S R pc 4 1=K at *
  generalize rsA xs n S R pc 4 1=AA at *
  generalize wsv (rsM xs n S R pc 4 1)=XM at *
  generalize wsv xs=XX at *
  generalize Qao (x) (pc) (c)=CC at *
  refine fnW Tryz.func13 ?_
  (repeat' ((conv=>whnf);first|(intro hb;first|exact zk2 hb|(try (replace hb:=zn0 hb)))|(apply Sd.mk; · first|exact ⟨hlCC,hkCC,rfl,(by show 0+CC.length≤25;omega)⟩|(refine ⟨rfl,rfl,rfl,?_⟩;show 0+16+1≤CC.length;omega))|((with_reducible apply Vl.mk (α:=List SV)); · first|exact hzCC _ (by first|rfl|assumption))|(apply Sg.mk; · first|exact Qaj CC hlCC)|((with_reducible apply Ge.mk (α:=SV)); · first|exact gpCC)|(refine Qay hco ?_)|(refine QbY hr ?_)|refine zst ?_|refine zbx ?_ ?_|refine zgx ?_ ?_|refine eqR ?_));(all_goals (try (conv=>whnf)))
  all_goals exact Qco
end Go.Proofs.YtjgikeckbeeehaaGreat
