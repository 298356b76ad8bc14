import Derived.Test.YtjgikeckbeeehaaGreatP9
set_option linter.unusedSimpArgs false
set_option linter.unusedVariables false
set_option maxHeartbeats 100000000
set_option maxRecDepth 100000
namespace Go.Proofs.YtjgikeckbeeehaaGreat
open Go Go.RowKit
theorem QiD (o:Int) (a b:Nat) (ha:a<4294967296) (hb0:b<4294967296):Fn Tryz.prog 66 [.s (.int .i64 o),.s (.int .u32 a),.s (.int .u32 b)] [] (· =⟨.a (.s (.bool (Qfu o a b))),[],[]⟩):=by
 refine fnW Tryz.func66 ?_
 (repeat' ((conv=>whnf);first|(intro hb;first|exact zk0 hb|(try (replace hb:=zn0 hb)))|(with_reducible first|refine zv (Qbl _ ha) ?_|refine zv (Qbl _ hb0) ?_)|refine zs0 ?_|refine zbx ?_ ?_|refine zgx ?_ ?_));(all_goals (try (conv=>whnf)))
 all_goals
  apply Qan
  (focus rfl)
  simp only [Qa7]
  congr 3
  first
   | (subst hb;simp [Qfu];done)
   | (subst hb;simp [Qfu];omega)
   | (unfold Qfu;rw [if_neg (by omega),if_neg (by omega),if_neg (by omega),if_neg (by omega),if_neg (by omega)];simp;done)
   | (subst hb;rw [Bool.eq_iff_iff];simp [Qfu];done)
   | (subst hb;rw [Bool.eq_iff_iff];simp [Qfu];omega)
theorem Qac {l:List SV} (h:l.length=25):∀ c:List SV,c.length=25→QaF c 0 l=l:=fun c hc=>Qbt (hc.trans h.symm)
theorem Qew (x:List Nat) (pc:Nat) (c:List Nat) (r v:Nat) (hx:x.length=16) (hc:c.length=8) (hr:r<16):Fn Tryz.prog 65 [.agg (Qao x pc c),.s (.int .i64 r),.s (.int .u32 v)] [] (· =⟨.a (.agg (Qao (QaE x r v) pc c)),[],[]⟩):=by
 have hl:=Qai x pc c hx hc
 have hs:=Qae x pc c
 have hk:=Qab x pc c
 have wi:=QwT r
 have hw:=Qfo x pc c r v hx hr
 have hl2:=Qai (x.set r v) pc c (by simpa using hx) hc
 have hs2:=Qae (x.set r v) pc c
 have hz1:=Qac hl
 have hz2:=Qac hl2
 have hk2:=Qab (x.set r v) pc c
 unfold QaE
 by_cases h:r=0
 ·rw [if_pos h]
  subst h
  generalize Qao x pc c=C at *
  refine fnW Tryz.func65 ?_
  (repeat' ((conv=>whnf);first|(intro hb;first|exact zk2 hb|(try (replace hb:=zn0 hb)))|(apply Sd.mk; · exact ⟨hl,hk,rfl,(by show 0+C.length≤25;omega)⟩)|((with_reducible apply Vl.mk (α:=List SV)); · exact hz1 _ rfl)|(apply Sg.mk; · exact Qaj C hl)|refine zst ?_|refine zbx ?_ ?_|refine zgx ?_ ?_|refine eqR ?_));(all_goals (try (conv=>whnf)))
  all_goals exact zf_
 ·rw [if_neg h]
  generalize Qao (x.set r v) pc c=C2 at *
  generalize Qao x pc c=C at *
  refine fnW Tryz.func65 ?_
  (repeat' ((conv=>whnf);first|(intro hb;first|exact zk2 hb|(try (replace hb:=zn0 hb)))|(apply Sd.mk; · first|exact ⟨hl,hk,rfl,(by show 0+C.length≤25;omega)⟩|exact ⟨hl2,hk2,rfl,(by show 0+C2.length≤25;omega)⟩|(show (0:Int)≤r∧(r:Int)<16;omega)|(refine ⟨rfl,rfl,rfl,?_⟩;show r+1≤C.length;omega))|((with_reducible apply Vl.mk (α:=List SV)); · first|with_reducible exact hw|exact hz1 _ rfl|exact hz2 _ rfl)|(apply Sg.mk; · first|exact Qaj C2 hl2|exact Qaj C hl)|refine zst ?_|refine zbx ?_ ?_|refine zgx ?_ ?_|refine eqR ?_));(all_goals (try (conv=>whnf)))
  all_goals exact zf_
theorem QnJ (x:List Nat) (pc:Nat) (c:List Nat) (o:Int) (A B C:Nat) (m:Int) (hx:x.length=16) (hc:c.length=8) (hxr:∀ y∈x,y<4294967296) (hcr:∀ y∈c,y<4294967296) (hpc:pc<4294967296) (hA:A<16) (hB:B<16) (hC:C<16) (hm:o=58→0≤m∧m<8) (hmr: -32768≤m∧m≤65535) (ho:1≤o∧o≤13) :
  Fn Tryz.prog 36 [.agg (Qao x pc c),.agg (iv o A B C m)] [] (· =⟨.tup [.agg (Qao (exX x pc c o A B C m) (exP x pc c o A B m) (exC x pc c o A m)),.agg (exE x o A m)],[],[]⟩):=by
 have eX:exX x pc c o A B C m=QaE x A (Qb7 o (x.getD B 0) (x.getD C 0)):=by unfold exX;rw [if_pos (by omega)]
 have eP:exP x pc c o A B m=w32 ((pc:Int)+4):=by unfold exP;rw [if_neg (by omega),if_neg (by omega),if_neg (by omega),if_neg (by omega),if_neg (by omega)]
 have eC:exC x pc c o A m=c:=by unfold exC;rw [if_neg (by omega),if_neg (by omega),if_neg (by omega)]
 have eE:exE x o A m= [.int .i64 0,.int .i64 0,.int .i64 0,.int .u32 (0:Nat)]:=by unfold exE;rw [if_neg (by omega),if_neg (by omega),if_neg (by omega),if_neg (by omega),if_neg (by omega)]
 rw [eX,eP,eC,eE]
 have rA:=Qak x pc c A hx hA
 have rB:=Qak x pc c B hx hB
 have rC:=Qak x pc c C hx hC
 have gp:=Qas x pc c hx
 have qm:IntKind.u32.wrap m=((w32 m:Nat):Int):=Qav m
 have q4:IntKind.u32.wrap ((pc:Int)+4)=((w32 ((pc:Int)+4):Nat):Int):=Qav _
 have xA:=Qad hxr A
 have xB:=Qad hxr B
 have xC:=Qad hxr C
 have lm:=Qax m
 have hl:=Qai x pc c hx hc
 have hs:=Qae x pc c
 have hk:=Qab x pc c
 have hz1:=Qac hl
 obtain ⟨V,hV⟩:∃ V,Qb7 o (x.getD B 0) (x.getD C 0)=V:=⟨_,rfl⟩
 obtain ⟨PP,hPP⟩:∃ PP,w32 ((pc:Int)+4)=PP:=⟨_,rfl⟩
 rw [hV,hPP]
 rw [hPP] at q4
 have hal:=Qp4 o (x.getD B 0) (x.getD C 0) xB (by first|exact xC|exact lm)
 rw [← Qdn o (x.getD B 0) (x.getD C 0) xB (by first|exact xC|exact lm),hV] at hal
 generalize QpH o=bb at *
 have hst:=Qew x pc c A V hx hc hA
 have hl2:=Qai (QaE x A V) pc c (by rw [Qap];exact hx) hc
 have hs2:=Qae (QaE x A V) pc c
 have hk2:=Qab (QaE x A V) pc c
 have hw1:QaF (Qao x pc c) 0 (Qao (QaE x A V) pc c)=Qao (QaE x A V) pc c:=Qbt (by omega)
 have hw2:=QaB (QaE x A V) pc c PP (by rw [Qap];exact hx)
 have hl3:=Qai (QaE x A V) PP c (by rw [Qap];exact hx) hc
 have hs3:=Qae (QaE x A V) PP c
 have hk3:=Qab (QaE x A V) PP c
 have hz3:=Qac hl3
 have gp2:=Qas (QaE x A V) pc c (by rw [Qap];exact hx)
 generalize Qao (QaE x A V) PP c=C3 at *
 generalize Qao (QaE x A V) pc c=C2 at *
 clear eX eP eC eE hxr hcr hm
 generalize x.getD A 0=vA at *
 generalize x.getD B 0=vB at *
 generalize x.getD C 0=vC at *
 skip
 generalize Qao x pc c=CC at *
 generalize w32 m=mm at *
 generalize w32 ((pc:Int)+4)=p4 at *
 refine fnW Tryz.func36 ?_
 (repeat' ((conv=>whnf);first|(intro hb;first|exact zk2 hb|(try (replace hb:=zn0 hb)))|((with_reducible apply Ge.mk (α:=SV)); · first|exact rA|exact rB|exact rC|exact gp|exact gp2)|(with_reducible first|refine zv qm ?_|refine zv q4 ?_)|((with_reducible apply Vl.mk (α:=List SV)); · first|exact hw1|exact hw2|exact hz1 _ rfl|exact hz3 _ rfl)|(apply Sg.mk; · first|exact Qaj C3 hl3|exact Qaj C2 hl2|exact Qaj CC hl)|(apply Sd.mk; · first|exact ⟨hl,hk,rfl,(by show 0+CC.length≤25;omega)⟩|exact ⟨hl3,hk3,rfl,(by show 0+C3.length≤25;omega)⟩|exact ⟨hl2,hk2,rfl,(by show 0+C2.length≤CC.length;omega)⟩|(refine ⟨rfl,rfl,rfl,?_⟩;show 16+1≤C2.length;omega)|(refine ⟨rfl,rfl,rfl,?_⟩;show 0+16+1≤C2.length;omega)|(show (0:Int)≤A∧(A:Int)<16;omega)|(show (0:Int)≤B∧(B:Int)<16;omega)|(show (0:Int)≤C∧(C:Int)<16;omega))|(refine zpu hst ?_)|(refine zpu hal ?_)|refine zst ?_|refine zbx ?_ ?_|refine zgx ?_ ?_|refine eqR ?_));(all_goals (try (conv=>whnf)))
 all_goals exact zF_
theorem Qnb (x:List Nat) (pc:Nat) (c:List Nat) (o:Int) (A B C:Nat) (m:Int) (hx:x.length=16) (hc:c.length=8) (hxr:∀ y∈x,y<4294967296) (hcr:∀ y∈c,y<4294967296) (hpc:pc<4294967296) (hA:A<16) (hB:B<16) (hC:C<16) (hm:o=58→0≤m∧m<8) (hmr: -32768≤m∧m≤65535) (ho:16≤o∧o≤23) :
  Fn Tryz.prog 36 [.agg (Qao x pc c),.agg (iv o A B C m)] [] (· =⟨.tup [.agg (Qao (exX x pc c o A B C m) (exP x pc c o A B m) (exC x pc c o A m)),.agg (exE x o A m)],[],[]⟩):=by
 have eX:exX x pc c o A B C m=QaE x A (Qb7 o (x.getD B 0) (w32 m)):=by unfold exX;rw [if_neg (by omega),if_pos (by omega)]
 have eP:exP x pc c o A B m=w32 ((pc:Int)+4):=by unfold exP;rw [if_neg (by omega),if_neg (by omega),if_neg (by omega),if_neg (by omega),if_neg (by omega)]
 have eC:exC x pc c o A m=c:=by unfold exC;rw [if_neg (by omega),if_neg (by omega),if_neg (by omega)]
 have eE:exE x o A m= [.int .i64 0,.int .i64 0,.int .i64 0,.int .u32 (0:Nat)]:=by unfold exE;rw [if_neg (by omega),if_neg (by omega),if_neg (by omega),if_neg (by omega),if_neg (by omega)]
 rw [eX,eP,eC,eE]
 have rA:=Qak x pc c A hx hA
 have rB:=Qak x pc c B hx hB
 have rC:=Qak x pc c C hx hC
 have gp:=Qas x pc c hx
 have qm:IntKind.u32.wrap m=((w32 m:Nat):Int):=Qav m
 have q4:IntKind.u32.wrap ((pc:Int)+4)=((w32 ((pc:Int)+4):Nat):Int):=Qav _
 have xA:=Qad hxr A
 have xB:=Qad hxr B
 have xC:=Qad hxr C
 have lm:=Qax m
 have hl:=Qai x pc c hx hc
 have hs:=Qae x pc c
 have hk:=Qab x pc c
 have hz1:=Qac hl
 obtain ⟨V,hV⟩:∃ V,Qb7 o (x.getD B 0) (w32 m)=V:=⟨_,rfl⟩
 obtain ⟨PP,hPP⟩:∃ PP,w32 ((pc:Int)+4)=PP:=⟨_,rfl⟩
 rw [hV,hPP]
 rw [hPP] at q4
 have hal:=Qp4 o (x.getD B 0) (w32 m) xB (by first|exact xC|exact lm)
 rw [← Qdn o (x.getD B 0) (w32 m) xB (by first|exact xC|exact lm),hV] at hal
 generalize QpH o=bb at *
 have hst:=Qew x pc c A V hx hc hA
 have hl2:=Qai (QaE x A V) pc c (by rw [Qap];exact hx) hc
 have hs2:=Qae (QaE x A V) pc c
 have hk2:=Qab (QaE x A V) pc c
 have hw1:QaF (Qao x pc c) 0 (Qao (QaE x A V) pc c)=Qao (QaE x A V) pc c:=Qbt (by omega)
 have hw2:=QaB (QaE x A V) pc c PP (by rw [Qap];exact hx)
 have hl3:=Qai (QaE x A V) PP c (by rw [Qap];exact hx) hc
 have hs3:=Qae (QaE x A V) PP c
 have hk3:=Qab (QaE x A V) PP c
 have hz3:=Qac hl3
 have gp2:=Qas (QaE x A V) pc c (by rw [Qap];exact hx)
 generalize Qao (QaE x A V) PP c=C3 at *
 generalize Qao (QaE x A V) pc c=C2 at *
 clear eX eP eC eE hxr hcr hm
 generalize x.getD A 0=vA at *
 generalize x.getD B 0=vB at *
 generalize x.getD C 0=vC at *
 skip
 generalize Qao x pc c=CC at *
 generalize w32 m=mm at *
 generalize w32 ((pc:Int)+4)=p4 at *
 refine fnW Tryz.func36 ?_
 (repeat' ((conv=>whnf);first|(intro hb;first|exact zk2 hb|(try (replace hb:=zn0 hb)))|((with_reducible apply Ge.mk (α:=SV)); · first|exact rA|exact rB|exact rC|exact gp|exact gp2)|(with_reducible first|refine zv qm ?_|refine zv q4 ?_)|((with_reducible apply Vl.mk (α:=List SV)); · first|exact hw1|exact hw2|exact hz1 _ rfl|exact hz3 _ rfl)|(apply Sg.mk; · first|exact Qaj C3 hl3|exact Qaj C2 hl2|exact Qaj CC hl)|(apply Sd.mk; · first|exact ⟨hl,hk,rfl,(by show 0+CC.length≤25;omega)⟩|exact ⟨hl3,hk3,rfl,(by show 0+C3.length≤25;omega)⟩|exact ⟨hl2,hk2,rfl,(by show 0+C2.length≤CC.length;omega)⟩|(refine ⟨rfl,rfl,rfl,?_⟩;show 16+1≤C2.length;omega)|(refine ⟨rfl,rfl,rfl,?_⟩;show 0+16+1≤C2.length;omega)|(show (0:Int)≤A∧(A:Int)<16;omega)|(show (0:Int)≤B∧(B:Int)<16;omega)|(show (0:Int)≤C∧(C:Int)<16;omega))|(refine zpu hst ?_)|(refine zpu hal ?_)|refine zst ?_|refine zbx ?_ ?_|refine zgx ?_ ?_|refine eqR ?_));(all_goals (try (conv=>whnf)))
 all_goals exact zF_
theorem QqT (x:List Nat) (pc:Nat) (c:List Nat) (o:Int) (A B C:Nat) (m:Int) (hx:x.length=16) (hc:c.length=8) (hxr:∀ y∈x,y<4294967296) (hcr:∀ y∈c,y<4294967296) (hpc:pc<4294967296) (hA:A<16) (hB:B<16) (hC:C<16) (hm:o=58→0≤m∧m<8) (hmr: -32768≤m∧m≤65535) (ho:o=24) :
  Fn Tryz.prog 36 [.agg (Qao x pc c),.agg (iv o A B C m)] [] (· =⟨.tup [.agg (Qao (exX x pc c o A B C m) (exP x pc c o A B m) (exC x pc c o A m)),.agg (exE x o A m)],[],[]⟩):=by
 have eX:exX x pc c o A B C m=QaE x A (w32 ((w32 m:Nat)*65536)):=by unfold exX;rw [if_neg (by omega),if_neg (by omega),if_pos (by omega)]
 have eP:exP x pc c o A B m=w32 ((pc:Int)+4):=by unfold exP;rw [if_neg (by omega),if_neg (by omega),if_neg (by omega),if_neg (by omega),if_neg (by omega)]
 have eC:exC x pc c o A m=c:=by unfold exC;rw [if_neg (by omega),if_neg (by omega),if_neg (by omega)]
 have eE:exE x o A m= [.int .i64 0,.int .i64 0,.int .i64 0,.int .u32 (0:Nat)]:=by unfold exE;rw [if_neg (by omega),if_neg (by omega),if_neg (by omega),if_neg (by omega),if_neg (by omega)]
 rw [eX,eP,eC,eE]
 have rA:=Qak x pc c A hx hA
 have rB:=Qak x pc c B hx hB
 have rC:=Qak x pc c C hx hC
 have gp:=Qas x pc c hx
 have qm:IntKind.u32.wrap m=((w32 m:Nat):Int):=Qav m
 have q4:IntKind.u32.wrap ((pc:Int)+4)=((w32 ((pc:Int)+4):Nat):Int):=Qav _
 have xA:=Qad hxr A
 have xB:=Qad hxr B
 have xC:=Qad hxr C
 have lm:=Qax m
 have hl:=Qai x pc c hx hc
 have hs:=Qae x pc c
 have hk:=Qab x pc c
 have hz1:=Qac hl
 obtain ⟨V,hV⟩:∃ V,w32 ((w32 m:Nat)*65536)=V:=⟨_,rfl⟩
 obtain ⟨PP,hPP⟩:∃ PP,w32 ((pc:Int)+4)=PP:=⟨_,rfl⟩
 rw [hV,hPP]
 rw [hPP] at q4
 have q16:IntKind.u32.wrap (((w32 m:Nat):Int)*2^min (Int.toNat 16) IntKind.u32.bits)=(V:Int):=by rw [show (2:Int)^min (Int.toNat 16) IntKind.u32.bits=65536 from rfl,Qav,hV]
 have hst:=Qew x pc c A V hx hc hA
 have hl2:=Qai (QaE x A V) pc c (by rw [Qap];exact hx) hc
 have hs2:=Qae (QaE x A V) pc c
 have hk2:=Qab (QaE x A V) pc c
 have hw1:QaF (Qao x pc c) 0 (Qao (QaE x A V) pc c)=Qao (QaE x A V) pc c:=Qbt (by omega)
 have hw2:=QaB (QaE x A V) pc c PP (by rw [Qap];exact hx)
 have hl3:=Qai (QaE x A V) PP c (by rw [Qap];exact hx) hc
 have hs3:=Qae (QaE x A V) PP c
 have hk3:=Qab (QaE x A V) PP c
 have hz3:=Qac hl3
 have gp2:=Qas (QaE x A V) pc c (by rw [Qap];exact hx)
 generalize Qao (QaE x A V) PP c=C3 at *
 generalize Qao (QaE x A V) pc c=C2 at *
 clear eX eP eC eE hxr hcr hm
 generalize x.getD A 0=vA at *
 generalize x.getD B 0=vB at *
 generalize x.getD C 0=vC at *
 skip
 generalize Qao x pc c=CC at *
 generalize w32 m=mm at *
 generalize w32 ((pc:Int)+4)=p4 at *
 refine fnW Tryz.func36 ?_
 (repeat' ((conv=>whnf);first|(intro hb;first|exact zk2 hb|(try (replace hb:=zn0 hb)))|((with_reducible apply Ge.mk (α:=SV)); · first|exact rA|exact rB|exact rC|exact gp|exact gp2)|(with_reducible first|refine zv qm ?_|refine zv q4 ?_|refine zv q16 ?_)|((with_reducible apply Vl.mk (α:=List SV)); · first|exact hw1|exact hw2|exact hz1 _ rfl|exact hz3 _ rfl)|(apply Sg.mk; · first|exact Qaj C3 hl3|exact Qaj C2 hl2|exact Qaj CC hl)|(apply Sd.mk; · first|exact ⟨hl,hk,rfl,(by show 0+CC.length≤25;omega)⟩|exact ⟨hl3,hk3,rfl,(by show 0+C3.length≤25;omega)⟩|exact ⟨hl2,hk2,rfl,(by show 0+C2.length≤CC.length;omega)⟩|(refine ⟨rfl,rfl,rfl,?_⟩;show 16+1≤C2.length;omega)|(refine ⟨rfl,rfl,rfl,?_⟩;show 0+16+1≤C2.length;omega)|(show (0:Int)≤A∧(A:Int)<16;omega)|(show (0:Int)≤B∧(B:Int)<16;omega)|(show (0:Int)≤C∧(C:Int)<16;omega))|(refine zpu hst ?_)|refine zst ?_|refine zbx ?_ ?_|refine zgx ?_ ?_|refine eqR ?_));(all_goals (try (conv=>whnf)))
 all_goals exact zF_
theorem Qtv (x:List Nat) (pc:Nat) (c:List Nat) (o:Int) (A B C:Nat) (m:Int) (hx:x.length=16) (hc:c.length=8) (hxr:∀ y∈x,y<4294967296) (hcr:∀ y∈c,y<4294967296) (hpc:pc<4294967296) (hA:A<16) (hB:B<16) (hC:C<16) (hm:o=58→0≤m∧m<8) (hmr: -32768≤m∧m≤65535) (ho:o=48) :
  Fn Tryz.prog 36 [.agg (Qao x pc c),.agg (iv o A B C m)] [] (· =⟨.tup [.agg (Qao (exX x pc c o A B C m) (exP x pc c o A B m) (exC x pc c o A m)),.agg (exE x o A m)],[],[]⟩):=by
 have eX:exX x pc c o A B C m=QaE x A (w32 ((pc:Int)+4)):=by unfold exX;rw [if_neg (by omega),if_neg (by omega),if_neg (by omega),if_pos (by omega)]
 have eP:exP x pc c o A B m=w32 ((pc:Int)+w32 (4*(w32 m:Nat))):=by unfold exP;rw [if_neg (by omega),if_pos (by omega)]
 have eC:exC x pc c o A m=c:=by unfold exC;rw [if_neg (by omega),if_neg (by omega),if_neg (by omega)]
 have eE:exE x o A m= [.int .i64 0,.int .i64 0,.int .i64 0,.int .u32 (0:Nat)]:=by unfold exE;rw [if_neg (by omega),if_neg (by omega),if_neg (by omega),if_neg (by omega),if_neg (by omega)]
 rw [eX,eP,eC,eE]
 have rA:=Qak x pc c A hx hA
 have rB:=Qak x pc c B hx hB
 have rC:=Qak x pc c C hx hC
 have gp:=Qas x pc c hx
 have qm:IntKind.u32.wrap m=((w32 m:Nat):Int):=Qav m
 have q4:IntKind.u32.wrap ((pc:Int)+4)=((w32 ((pc:Int)+4):Nat):Int):=Qav _
 have xA:=Qad hxr A
 have xB:=Qad hxr B
 have xC:=Qad hxr C
 have lm:=Qax m
 have hl:=Qai x pc c hx hc
 have hs:=Qae x pc c
 have hk:=Qab x pc c
 have hz1:=Qac hl
 obtain ⟨V,hV⟩:∃ V,w32 ((pc:Int)+4)=V:=⟨_,rfl⟩
 obtain ⟨PP,hPP⟩:∃ PP,w32 ((pc:Int)+w32 (4*(w32 m:Nat)))=PP:=⟨_,rfl⟩
 rw [hV,hPP]
 rw [hV] at q4
 have q4m:IntKind.u32.wrap (4*((w32 m:Nat):Int))=((w32 (4*(w32 m:Nat)):Nat):Int):=Qav _
 have qT:IntKind.u32.wrap ((pc:Int)+((w32 (4*(w32 m:Nat)):Nat):Int))=(PP:Int):=by rw [Qav,hPP]
 have hst:=Qew x pc c A V hx hc hA
 have hl2:=Qai (QaE x A V) pc c (by rw [Qap];exact hx) hc
 have hs2:=Qae (QaE x A V) pc c
 have hk2:=Qab (QaE x A V) pc c
 have hw1:QaF (Qao x pc c) 0 (Qao (QaE x A V) pc c)=Qao (QaE x A V) pc c:=Qbt (by omega)
 have hw2:=QaB (QaE x A V) pc c PP (by rw [Qap];exact hx)
 have hl3:=Qai (QaE x A V) PP c (by rw [Qap];exact hx) hc
 have hs3:=Qae (QaE x A V) PP c
 have hk3:=Qab (QaE x A V) PP c
 have hz3:=Qac hl3
 have gp2:=Qas (QaE x A V) pc c (by rw [Qap];exact hx)
 generalize Qao (QaE x A V) PP c=C3 at *
 generalize Qao (QaE x A V) pc c=C2 at *
 clear eX eP eC eE hxr hcr hm
 generalize x.getD A 0=vA at *
 generalize x.getD B 0=vB at *
 generalize x.getD C 0=vC at *
 generalize w32 (4*((w32 m:Nat):Int))=m4 at *
 generalize Qao x pc c=CC at *
 generalize w32 m=mm at *
 generalize w32 ((pc:Int)+4)=p4 at *
 refine fnW Tryz.func36 ?_
 (repeat' ((conv=>whnf);first|(intro hb;first|exact zk2 hb|(try (replace hb:=zn0 hb)))|((with_reducible apply Ge.mk (α:=SV)); · first|exact rA|exact rB|exact rC|exact gp|exact gp2)|(with_reducible first|refine zv qm ?_|refine zv q4 ?_|refine zv q4m ?_|refine zv qT ?_)|((with_reducible apply Vl.mk (α:=List SV)); · first|exact hw1|exact hw2|exact hz1 _ rfl|exact hz3 _ rfl)|(apply Sg.mk; · first|exact Qaj C3 hl3|exact Qaj C2 hl2|exact Qaj CC hl)|(apply Sd.mk; · first|exact ⟨hl,hk,rfl,(by show 0+CC.length≤25;omega)⟩|exact ⟨hl3,hk3,rfl,(by show 0+C3.length≤25;omega)⟩|exact ⟨hl2,hk2,rfl,(by show 0+C2.length≤CC.length;omega)⟩|(refine ⟨rfl,rfl,rfl,?_⟩;show 16+1≤C2.length;omega)|(refine ⟨rfl,rfl,rfl,?_⟩;show 0+16+1≤C2.length;omega)|(show (0:Int)≤A∧(A:Int)<16;omega)|(show (0:Int)≤B∧(B:Int)<16;omega)|(show (0:Int)≤C∧(C:Int)<16;omega))|(refine zpu hst ?_)|refine zst ?_|refine zbx ?_ ?_|refine zgx ?_ ?_|refine eqR ?_));(all_goals (try (conv=>whnf)))
 all_goals exact zF_
theorem Qpw (x:List Nat) (pc:Nat) (c:List Nat) (o:Int) (A B C:Nat) (m:Int) (hx:x.length=16) (hc:c.length=8) (hxr:∀ y∈x,y<4294967296) (hcr:∀ y∈c,y<4294967296) (hpc:pc<4294967296) (hA:A<16) (hB:B<16) (hC:C<16) (hm:o=58→0≤m∧m<8) (hmr: -32768≤m∧m≤65535) (ho:o=49) :
  Fn Tryz.prog 36 [.agg (Qao x pc c),.agg (iv o A B C m)] [] (· =⟨.tup [.agg (Qao (exX x pc c o A B C m) (exP x pc c o A B m) (exC x pc c o A m)),.agg (exE x o A m)],[],[]⟩):=by
 have eX:exX x pc c o A B C m=QaE x A (w32 ((pc:Int)+4)):=by unfold exX;rw [if_neg (by omega),if_neg (by omega),if_neg (by omega),if_pos (by omega)]
 have eP:exP x pc c o A B m=w32 ((x.getD B 0:Nat)+(w32 m:Nat)):=by unfold exP;rw [if_neg (by omega),if_neg (by omega),if_pos (by omega)]
 have eC:exC x pc c o A m=c:=by unfold exC;rw [if_neg (by omega),if_neg (by omega),if_neg (by omega)]
 have eE:exE x o A m= [.int .i64 0,.int .i64 0,.int .i64 0,.int .u32 (0:Nat)]:=by unfold exE;rw [if_neg (by omega),if_neg (by omega),if_neg (by omega),if_neg (by omega),if_neg (by omega)]
 rw [eX,eP,eC,eE]
 have rA:=Qak x pc c A hx hA
 have rB:=Qak x pc c B hx hB
 have rC:=Qak x pc c C hx hC
 have gp:=Qas x pc c hx
 have qm:IntKind.u32.wrap m=((w32 m:Nat):Int):=Qav m
 have q4:IntKind.u32.wrap ((pc:Int)+4)=((w32 ((pc:Int)+4):Nat):Int):=Qav _
 have xA:=Qad hxr A
 have xB:=Qad hxr B
 have xC:=Qad hxr C
 have lm:=Qax m
 have hl:=Qai x pc c hx hc
 have hs:=Qae x pc c
 have hk:=Qab x pc c
 have hz1:=Qac hl
 obtain ⟨V,hV⟩:∃ V,w32 ((pc:Int)+4)=V:=⟨_,rfl⟩
 obtain ⟨PP,hPP⟩:∃ PP,w32 ((x.getD B 0:Nat)+(w32 m:Nat))=PP:=⟨_,rfl⟩
 rw [hV,hPP]
 rw [hV] at q4
 have qT:IntKind.u32.wrap (((x.getD B 0:Nat):Int)+((w32 m:Nat):Int))=(PP:Int):=by rw [Qav,hPP]
 have hst:=Qew x pc c A V hx hc hA
 have hl2:=Qai (QaE x A V) pc c (by rw [Qap];exact hx) hc
 have hs2:=Qae (QaE x A V) pc c
 have hk2:=Qab (QaE x A V) pc c
 have hw1:QaF (Qao x pc c) 0 (Qao (QaE x A V) pc c)=Qao (QaE x A V) pc c:=Qbt (by omega)
 have hw2:=QaB (QaE x A V) pc c PP (by rw [Qap];exact hx)
 have hl3:=Qai (QaE x A V) PP c (by rw [Qap];exact hx) hc
 have hs3:=Qae (QaE x A V) PP c
 have hk3:=Qab (QaE x A V) PP c
 have hz3:=Qac hl3
 have gp2:=Qas (QaE x A V) pc c (by rw [Qap];exact hx)
 generalize Qao (QaE x A V) PP c=C3 at *
 generalize Qao (QaE x A V) pc c=C2 at *
 clear eX eP eC eE hxr hcr hm
 generalize x.getD A 0=vA at *
 generalize x.getD B 0=vB at *
 generalize x.getD C 0=vC at *
 skip
 generalize Qao x pc c=CC at *
 generalize w32 m=mm at *
 generalize w32 ((pc:Int)+4)=p4 at *
 refine fnW Tryz.func36 ?_
 (repeat' ((conv=>whnf);first|(intro hb;first|exact zk2 hb|(try (replace hb:=zn0 hb)))|((with_reducible apply Ge.mk (α:=SV)); · first|exact rA|exact rB|exact rC|exact gp|exact gp2)|(with_reducible first|refine zv qm ?_|refine zv q4 ?_|refine zv qT ?_)|((with_reducible apply Vl.mk (α:=List SV)); · first|exact hw1|exact hw2|exact hz1 _ rfl|exact hz3 _ rfl)|(apply Sg.mk; · first|exact Qaj C3 hl3|exact Qaj C2 hl2|exact Qaj CC hl)|(apply Sd.mk; · first|exact ⟨hl,hk,rfl,(by show 0+CC.length≤25;omega)⟩|exact ⟨hl3,hk3,rfl,(by show 0+C3.length≤25;omega)⟩|exact ⟨hl2,hk2,rfl,(by show 0+C2.length≤CC.length;omega)⟩|(refine ⟨rfl,rfl,rfl,?_⟩;show 16+1≤C2.length;omega)|(refine ⟨rfl,rfl,rfl,?_⟩;show 0+16+1≤C2.length;omega)|(show (0:Int)≤A∧(A:Int)<16;omega)|(show (0:Int)≤B∧(B:Int)<16;omega)|(show (0:Int)≤C∧(C:Int)<16;omega))|(refine zpu hst ?_)|refine zst ?_|refine zbx ?_ ?_|refine zgx ?_ ?_|refine eqR ?_));(all_goals (try (conv=>whnf)))
 all_goals exact zF_
theorem QnP (x:List Nat) (pc:Nat) (c:List Nat) (o:Int) (A B C:Nat) (m:Int) (hx:x.length=16) (hc:c.length=8) (hxr:∀ y∈x,y<4294967296) (hcr:∀ y∈c,y<4294967296) (hpc:pc<4294967296) (hA:A<16) (hB:B<16) (hC:C<16) (hm:o=58→0≤m∧m<8) (hmr: -32768≤m∧m≤65535) (ho:o=58) :
  Fn Tryz.prog 36 [.agg (Qao x pc c),.agg (iv o A B C m)] [] (· =⟨.tup [.agg (Qao (exX x pc c o A B C m) (exP x pc c o A B m) (exC x pc c o A m)),.agg (exE x o A m)],[],[]⟩):=by
 have eX:exX x pc c o A B C m=QaE x A (c.getD m.toNat 0):=by unfold exX;rw [if_neg (by omega),if_neg (by omega),if_neg (by omega),if_neg (by omega),if_pos (by omega)]
 have eP:exP x pc c o A B m=w32 ((pc:Int)+4):=by unfold exP;rw [if_neg (by omega),if_neg (by omega),if_neg (by omega),if_neg (by omega),if_neg (by omega)]
 have eC:exC x pc c o A m=c:=by unfold exC;rw [if_neg (by omega),if_neg (by omega),if_neg (by omega)]
 have eE:exE x o A m= [.int .i64 0,.int .i64 0,.int .i64 0,.int .u32 (0:Nat)]:=by unfold exE;rw [if_neg (by omega),if_neg (by omega),if_neg (by omega),if_neg (by omega),if_neg (by omega)]
 rw [eX,eP,eC,eE]
 have rA:=Qak x pc c A hx hA
 have rB:=Qak x pc c B hx hB
 have rC:=Qak x pc c C hx hC
 have gp:=Qas x pc c hx
 have qm:IntKind.u32.wrap m=((w32 m:Nat):Int):=Qav m
 have q4:IntKind.u32.wrap ((pc:Int)+4)=((w32 ((pc:Int)+4):Nat):Int):=Qav _
 have xA:=Qad hxr A
 have xB:=Qad hxr B
 have xC:=Qad hxr C
 have lm:=Qax m
 have hl:=Qai x pc c hx hc
 have hs:=Qae x pc c
 have hk:=Qab x pc c
 have hz1:=Qac hl
 obtain ⟨V,hV⟩:∃ V,c.getD m.toNat 0=V:=⟨_,rfl⟩
 obtain ⟨PP,hPP⟩:∃ PP,w32 ((pc:Int)+4)=PP:=⟨_,rfl⟩
 rw [hV,hPP]
 rw [hPP] at q4
 have hm8:=hm ho
 have rM:=Qct x pc c m.toNat hx hc (by omega)
 rw [hV] at rM
 have hst:=Qew x pc c A V hx hc hA
 have hl2:=Qai (QaE x A V) pc c (by rw [Qap];exact hx) hc
 have hs2:=Qae (QaE x A V) pc c
 have hk2:=Qab (QaE x A V) pc c
 have hw1:QaF (Qao x pc c) 0 (Qao (QaE x A V) pc c)=Qao (QaE x A V) pc c:=Qbt (by omega)
 have hw2:=QaB (QaE x A V) pc c PP (by rw [Qap];exact hx)
 have hl3:=Qai (QaE x A V) PP c (by rw [Qap];exact hx) hc
 have hs3:=Qae (QaE x A V) PP c
 have hk3:=Qab (QaE x A V) PP c
 have hz3:=Qac hl3
 have gp2:=Qas (QaE x A V) pc c (by rw [Qap];exact hx)
 generalize Qao (QaE x A V) PP c=C3 at *
 generalize Qao (QaE x A V) pc c=C2 at *
 clear eX eP eC eE hxr hcr hm
 generalize x.getD A 0=vA at *
 generalize x.getD B 0=vB at *
 generalize x.getD C 0=vC at *
 skip
 generalize Qao x pc c=CC at *
 generalize w32 m=mm at *
 generalize w32 ((pc:Int)+4)=p4 at *
 refine fnW Tryz.func36 ?_
 (repeat' ((conv=>whnf);first|(intro hb;first|exact zk2 hb|(try (replace hb:=zn0 hb)))|((with_reducible apply Ge.mk (α:=SV)); · first|exact rA|exact rB|exact rC|exact gp|exact gp2|exact rM)|(with_reducible first|refine zv qm ?_|refine zv q4 ?_)|((with_reducible apply Vl.mk (α:=List SV)); · first|exact hw1|exact hw2|exact hz1 _ rfl|exact hz3 _ rfl)|(apply Sg.mk; · first|exact Qaj C3 hl3|exact Qaj C2 hl2|exact Qaj CC hl)|(apply Sd.mk; · first|exact ⟨hl,hk,rfl,(by show 0+CC.length≤25;omega)⟩|exact ⟨hl3,hk3,rfl,(by show 0+C3.length≤25;omega)⟩|exact ⟨hl2,hk2,rfl,(by show 0+C2.length≤CC.length;omega)⟩|(refine ⟨rfl,rfl,rfl,?_⟩;show 16+1≤C2.length;omega)|(refine ⟨rfl,rfl,rfl,?_⟩;show 0+16+1≤C2.length;omega)|(show (0:Int)≤A∧(A:Int)<16;omega)|(show (0:Int)≤B∧(B:Int)<16;omega)|(show (0:Int)≤C∧(C:Int)<16;omega)|(show (0:Int)≤m∧m<(8:Int);omega))|(refine zpu hst ?_)|refine zst ?_|refine zbx ?_ ?_|refine zgx ?_ ?_|refine eqR ?_));(all_goals (try (conv=>whnf)))
 all_goals exact zF_
theorem Qil (x:List Nat) (pc:Nat) (c:List Nat) (o:Int) (A B C:Nat) (m:Int) (hx:x.length=16) (hc:c.length=8) (hxr:∀ y∈x,y<4294967296) (hcr:∀ y∈c,y<4294967296) (hpc:pc<4294967296) (hA:A<16) (hB:B<16) (hC:C<16) (hm:o=58→0≤m∧m<8) (hmr: -32768≤m∧m≤65535) (ho:(40≤o∧o≤45)∧Qfu o (x.getD A 0) (x.getD B 0)=true) :
  Fn Tryz.prog 36 [.agg (Qao x pc c),.agg (iv o A B C m)] [] (· =⟨.tup [.agg (Qao (exX x pc c o A B C m) (exP x pc c o A B m) (exC x pc c o A m)),.agg (exE x o A m)],[],[]⟩):=by
 have eX:exX x pc c o A B C m=x:=by unfold exX;rw [if_neg (by omega),if_neg (by omega),if_neg (by omega),if_neg (by omega),if_neg (by omega)]
 have eP:exP x pc c o A B m=w32 ((pc:Int)+w32 (4*(w32 m:Nat))):=by unfold exP;rw [if_pos ho.1,ho.2];rfl
 have eC:exC x pc c o A m=c:=by unfold exC;rw [if_neg (by omega),if_neg (by omega),if_neg (by omega)]
 have eE:exE x o A m= [.int .i64 0,.int .i64 0,.int .i64 0,.int .u32 (0:Nat)]:=by unfold exE;rw [if_neg (by omega),if_neg (by omega),if_neg (by omega),if_neg (by omega),if_neg (by omega)]
 rw [eX,eP,eC,eE]
 have rA:=Qak x pc c A hx hA
 have rB:=Qak x pc c B hx hB
 have rC:=Qak x pc c C hx hC
 have gp:=Qas x pc c hx
 have qm:IntKind.u32.wrap m=((w32 m:Nat):Int):=Qav m
 have q4:IntKind.u32.wrap ((pc:Int)+4)=((w32 ((pc:Int)+4):Nat):Int):=Qav _
 have xA:=Qad hxr A
 have xB:=Qad hxr B
 have xC:=Qad hxr C
 have lm:=Qax m
 have hl:=Qai x pc c hx hc
 have hs:=Qae x pc c
 have hk:=Qab x pc c
 have hz1:=Qac hl
 obtain ⟨PP,hPP⟩:∃ PP,w32 ((pc:Int)+w32 (4*(w32 m:Nat)))=PP:=⟨_,rfl⟩
 rw [hPP]
 have htk:=QiD o (x.getD A 0) (x.getD B 0) xA xB
 have q4m:IntKind.u32.wrap (4*((w32 m:Nat):Int))=((w32 (4*(w32 m:Nat)):Nat):Int):=Qav _
 rw [ho.2] at htk
 have qT:IntKind.u32.wrap ((pc:Int)+((w32 (4*(w32 m:Nat)):Nat):Int))=(PP:Int):=by rw [Qav,hPP]
 replace ho:=ho.1
 have hw2:=QaB x pc c PP hx
 have hl3:=Qai x PP c hx hc
 have hs3:=Qae x PP c
 have hk3:=Qab x PP c
 have hz3:=Qac hl3
 generalize Qao x PP c=C3 at *
 clear eX eP eC eE hxr hcr hm
 generalize x.getD A 0=vA at *
 generalize x.getD B 0=vB at *
 generalize x.getD C 0=vC at *
 generalize w32 (4*((w32 m:Nat):Int))=m4 at *
 generalize Qao x pc c=CC at *
 generalize w32 m=mm at *
 generalize w32 ((pc:Int)+4)=p4 at *
 refine fnW Tryz.func36 ?_
 (repeat' ((conv=>whnf);first|(intro hb;first|exact zk2 hb|(try (replace hb:=zn0 hb)))|((with_reducible apply Ge.mk (α:=SV)); · first|exact rA|exact rB|exact rC|exact gp|exact gp2)|(with_reducible first|refine zv qm ?_|refine zv q4 ?_|refine zv q4m ?_|refine zv qT ?_)|((with_reducible apply Vl.mk (α:=List SV)); · first|exact hw2|exact hz1 _ rfl|exact hz3 _ rfl)|(apply Sg.mk; · first|exact Qaj C3 hl3|exact Qaj CC hl)|(apply Sd.mk; · first|exact ⟨hl,hk,rfl,(by show 0+CC.length≤25;omega)⟩|exact ⟨hl3,hk3,rfl,(by show 0+C3.length≤25;omega)⟩|(refine ⟨rfl,rfl,rfl,?_⟩;show 16+1≤CC.length;omega)|(refine ⟨rfl,rfl,rfl,?_⟩;show 0+16+1≤CC.length;omega)|(show (0:Int)≤A∧(A:Int)<16;omega)|(show (0:Int)≤B∧(B:Int)<16;omega)|(show (0:Int)≤C∧(C:Int)<16;omega))|(refine zpu htk ?_)|refine zst ?_|refine zbx ?_ ?_|refine zgx ?_ ?_|refine eqR ?_));(all_goals (try (conv=>whnf)))
 all_goals exact zF_
theorem Qha (x:List Nat) (pc:Nat) (c:List Nat) (o:Int) (A B C:Nat) (m:Int) (hx:x.length=16) (hc:c.length=8) (hxr:∀ y∈x,y<4294967296) (hcr:∀ y∈c,y<4294967296) (hpc:pc<4294967296) (hA:A<16) (hB:B<16) (hC:C<16) (hm:o=58→0≤m∧m<8) (hmr: -32768≤m∧m≤65535) (ho:(40≤o∧o≤45)∧Qfu o (x.getD A 0) (x.getD B 0)=false) :
  Fn Tryz.prog 36 [.agg (Qao x pc c),.agg (iv o A B C m)] [] (· =⟨.tup [.agg (Qao (exX x pc c o A B C m) (exP x pc c o A B m) (exC x pc c o A m)),.agg (exE x o A m)],[],[]⟩):=by
 have eX:exX x pc c o A B C m=x:=by unfold exX;rw [if_neg (by omega),if_neg (by omega),if_neg (by omega),if_neg (by omega),if_neg (by omega)]
 have eP:exP x pc c o A B m=w32 ((pc:Int)+4):=by unfold exP;rw [if_pos ho.1,ho.2];rfl
 have eC:exC x pc c o A m=c:=by unfold exC;rw [if_neg (by omega),if_neg (by omega),if_neg (by omega)]
 have eE:exE x o A m= [.int .i64 0,.int .i64 0,.int .i64 0,.int .u32 (0:Nat)]:=by unfold exE;rw [if_neg (by omega),if_neg (by omega),if_neg (by omega),if_neg (by omega),if_neg (by omega)]
 rw [eX,eP,eC,eE]
 have rA:=Qak x pc c A hx hA
 have rB:=Qak x pc c B hx hB
 have rC:=Qak x pc c C hx hC
 have gp:=Qas x pc c hx
 have qm:IntKind.u32.wrap m=((w32 m:Nat):Int):=Qav m
 have q4:IntKind.u32.wrap ((pc:Int)+4)=((w32 ((pc:Int)+4):Nat):Int):=Qav _
 have xA:=Qad hxr A
 have xB:=Qad hxr B
 have xC:=Qad hxr C
 have lm:=Qax m
 have hl:=Qai x pc c hx hc
 have hs:=Qae x pc c
 have hk:=Qab x pc c
 have hz1:=Qac hl
 obtain ⟨PP,hPP⟩:∃ PP,w32 ((pc:Int)+4)=PP:=⟨_,rfl⟩
 rw [hPP]
 rw [hPP] at q4
 have htk:=QiD o (x.getD A 0) (x.getD B 0) xA xB
 have q4m:IntKind.u32.wrap (4*((w32 m:Nat):Int))=((w32 (4*(w32 m:Nat)):Nat):Int):=Qav _
 rw [ho.2] at htk
 replace ho:=ho.1
 have hw2:=QaB x pc c PP hx
 have hl3:=Qai x PP c hx hc
 have hs3:=Qae x PP c
 have hk3:=Qab x PP c
 have hz3:=Qac hl3
 generalize Qao x PP c=C3 at *
 clear eX eP eC eE hxr hcr hm
 generalize x.getD A 0=vA at *
 generalize x.getD B 0=vB at *
 generalize x.getD C 0=vC at *
 generalize w32 (4*((w32 m:Nat):Int))=m4 at *
 generalize Qao x pc c=CC at *
 generalize w32 m=mm at *
 generalize w32 ((pc:Int)+4)=p4 at *
 refine fnW Tryz.func36 ?_
 (repeat' ((conv=>whnf);first|(intro hb;first|exact zk2 hb|(try (replace hb:=zn0 hb)))|((with_reducible apply Ge.mk (α:=SV)); · first|exact rA|exact rB|exact rC|exact gp|exact gp2)|(with_reducible first|refine zv qm ?_|refine zv q4 ?_|refine zv q4m ?_)|((with_reducible apply Vl.mk (α:=List SV)); · first|exact hw2|exact hz1 _ rfl|exact hz3 _ rfl)|(apply Sg.mk; · first|exact Qaj C3 hl3|exact Qaj CC hl)|(apply Sd.mk; · first|exact ⟨hl,hk,rfl,(by show 0+CC.length≤25;omega)⟩|exact ⟨hl3,hk3,rfl,(by show 0+C3.length≤25;omega)⟩|(refine ⟨rfl,rfl,rfl,?_⟩;show 16+1≤CC.length;omega)|(refine ⟨rfl,rfl,rfl,?_⟩;show 0+16+1≤CC.length;omega)|(show (0:Int)≤A∧(A:Int)<16;omega)|(show (0:Int)≤B∧(B:Int)<16;omega)|(show (0:Int)≤C∧(C:Int)<16;omega))|(refine zpu htk ?_)|refine zst ?_|refine zbx ?_ ?_|refine zgx ?_ ?_|refine eqR ?_));(all_goals (try (conv=>whnf)))
 all_goals exact zF_
theorem Qlv (x:List Nat) (pc:Nat) (c:List Nat) (o:Int) (A B C:Nat) (m:Int) (hx:x.length=16) (hc:c.length=8) (hxr:∀ y∈x,y<4294967296) (hcr:∀ y∈c,y<4294967296) (hpc:pc<4294967296) (hA:A<16) (hB:B<16) (hC:C<16) (hm:o=58→0≤m∧m<8) (hmr: -32768≤m∧m≤65535) (ho:o=56) :
  Fn Tryz.prog 36 [.agg (Qao x pc c),.agg (iv o A B C m)] [] (· =⟨.tup [.agg (Qao (exX x pc c o A B C m) (exP x pc c o A B m) (exC x pc c o A m)),.agg (exE x o A m)],[],[]⟩):=by
 have eX:exX x pc c o A B C m=x:=by unfold exX;rw [if_neg (by omega),if_neg (by omega),if_neg (by omega),if_neg (by omega),if_neg (by omega)]
 have eP:exP x pc c o A B m=c.getD 1 0:=by unfold exP;rw [if_neg (by omega),if_neg (by omega),if_neg (by omega),if_pos (by omega)]
 have eC:exC x pc c o A m=trL pc c 7 0:=by unfold exC;rw [if_pos (by omega)]
 have eE:exE x o A m= [.int .i64 0,.int .i64 0,.int .i64 0,.int .u32 (0:Nat)]:=by unfold exE;rw [if_neg (by omega),if_neg (by omega),if_neg (by omega),if_neg (by omega),if_neg (by omega)]
 rw [eX,eP,eC,eE]
 have rA:=Qak x pc c A hx hA
 have rB:=Qak x pc c B hx hB
 have rC:=Qak x pc c C hx hC
 have gp:=Qas x pc c hx
 have qm:IntKind.u32.wrap m=((w32 m:Nat):Int):=Qav m
 have q4:IntKind.u32.wrap ((pc:Int)+4)=((w32 ((pc:Int)+4):Nat):Int):=Qav _
 have xA:=Qad hxr A
 have xB:=Qad hxr B
 have xC:=Qad hxr C
 have lm:=Qax m
 have hl:=Qai x pc c hx hc
 have hs:=Qae x pc c
 have hk:=Qab x pc c
 have hz1:=Qac hl
 have htr:=Qdv x pc c 7 0 hx hc hcr
 rw [Qbh] at htr
 have hs3:=Qae x (c.getD 1 0) (trL pc c 7 0)
 have hl3:=Qai x (c.getD 1 0) (trL pc c 7 0) hx rfl
 have hk3:=Qab x (c.getD 1 0) (trL pc c 7 0)
 have hz3:=Qac hl3
 generalize Qao x (c.getD 1 0) (trL pc c 7 0)=C3 at *
 clear eX eP eC eE hxr hcr hm
 generalize x.getD A 0=vA at *
 generalize x.getD B 0=vB at *
 generalize x.getD C 0=vC at *
 skip
 generalize Qao x pc c=CC at *
 generalize w32 m=mm at *
 generalize w32 ((pc:Int)+4)=p4 at *
 refine fnW Tryz.func36 ?_
 (repeat' ((conv=>whnf);first|(intro hb;first|exact zk2 hb|(try (replace hb:=zn0 hb)))|((with_reducible apply Ge.mk (α:=SV)); · first|exact rA|exact rB|exact rC|exact gp|exact gp2)|(with_reducible first|refine zv qm ?_|refine zv q4 ?_)|((with_reducible apply Vl.mk (α:=List SV)); · first|exact hz3 _ rfl|exact hz1 _ rfl|exact hz3 _ rfl)|(apply Sg.mk; · first|exact Qaj C3 hl3|exact Qaj CC hl)|(apply Sd.mk; · first|exact ⟨hl,hk,rfl,(by show 0+CC.length≤25;omega)⟩|exact ⟨hl3,hk3,rfl,(by show 0+C3.length≤25;omega)⟩|(show (0:Int)≤A∧(A:Int)<16;omega)|(show (0:Int)≤B∧(B:Int)<16;omega)|(show (0:Int)≤C∧(C:Int)<16;omega))|(refine zpu htr ?_)|refine zst ?_|refine zbx ?_ ?_|refine zgx ?_ ?_|refine eqR ?_));(all_goals (try (conv=>whnf)))
 all_goals exact zF_
theorem Qpq (x:List Nat) (pc:Nat) (c:List Nat) (o:Int) (A B C:Nat) (m:Int) (hx:x.length=16) (hc:c.length=8) (hxr:∀ y∈x,y<4294967296) (hcr:∀ y∈c,y<4294967296) (hpc:pc<4294967296) (hA:A<16) (hB:B<16) (hC:C<16) (hm:o=58→0≤m∧m<8) (hmr: -32768≤m∧m≤65535) (ho:o=57) :
  Fn Tryz.prog 36 [.agg (Qao x pc c),.agg (iv o A B C m)] [] (· =⟨.tup [.agg (Qao (exX x pc c o A B C m) (exP x pc c o A B m) (exC x pc c o A m)),.agg (exE x o A m)],[],[]⟩):=by
 have eX:exX x pc c o A B C m=x:=by unfold exX;rw [if_neg (by omega),if_neg (by omega),if_neg (by omega),if_neg (by omega),if_neg (by omega)]
 have eP:exP x pc c o A B m=c.getD 2 0:=by unfold exP;rw [if_neg (by omega),if_neg (by omega),if_neg (by omega),if_neg (by omega),if_pos (by omega)]
 have eC:exC x pc c o A m=c.set 0 (Qfe (c.getD 0 0)):=by unfold exC;rw [if_neg (by omega),if_pos (by omega)]
 have eE:exE x o A m= [.int .i64 0,.int .i64 0,.int .i64 0,.int .u32 (0:Nat)]:=by unfold exE;rw [if_neg (by omega),if_neg (by omega),if_neg (by omega),if_neg (by omega),if_neg (by omega)]
 rw [eX,eP,eC,eE]
 have rA:=Qak x pc c A hx hA
 have rB:=Qak x pc c B hx hB
 have rC:=Qak x pc c C hx hC
 have gp:=Qas x pc c hx
 have qm:IntKind.u32.wrap m=((w32 m:Nat):Int):=Qav m
 have q4:IntKind.u32.wrap ((pc:Int)+4)=((w32 ((pc:Int)+4):Nat):Int):=Qav _
 have xA:=Qad hxr A
 have xB:=Qad hxr B
 have xC:=Qad hxr C
 have lm:=Qax m
 have hl:=Qai x pc c hx hc
 have hs:=Qae x pc c
 have hk:=Qab x pc c
 have hz1:=Qac hl
 have htr:=QuP x pc c hx hc hcr
 unfold Qxd at htr
 have hs3:=Qae x (c.getD 2 0) (c.set 0 (Qfe (c.getD 0 0)))
 have hl3:=Qai x (c.getD 2 0) (c.set 0 (Qfe (c.getD 0 0))) hx (by simpa using hc)
 have hk3:=Qab x (c.getD 2 0) (c.set 0 (Qfe (c.getD 0 0)))
 have hz3:=Qac hl3
 generalize Qao x (c.getD 2 0) (c.set 0 (Qfe (c.getD 0 0)))=C3 at *
 clear eX eP eC eE hxr hcr hm
 generalize x.getD A 0=vA at *
 generalize x.getD B 0=vB at *
 generalize x.getD C 0=vC at *
 skip
 generalize Qao x pc c=CC at *
 generalize w32 m=mm at *
 generalize w32 ((pc:Int)+4)=p4 at *
 refine fnW Tryz.func36 ?_
 (repeat' ((conv=>whnf);first|(intro hb;first|exact zk2 hb|(try (replace hb:=zn0 hb)))|((with_reducible apply Ge.mk (α:=SV)); · first|exact rA|exact rB|exact rC|exact gp|exact gp2)|(with_reducible first|refine zv qm ?_|refine zv q4 ?_)|((with_reducible apply Vl.mk (α:=List SV)); · first|exact hz3 _ rfl|exact hz1 _ rfl|exact hz3 _ rfl)|(apply Sg.mk; · first|exact Qaj C3 hl3|exact Qaj CC hl)|(apply Sd.mk; · first|exact ⟨hl,hk,rfl,(by show 0+CC.length≤25;omega)⟩|exact ⟨hl3,hk3,rfl,(by show 0+C3.length≤25;omega)⟩|(show (0:Int)≤A∧(A:Int)<16;omega)|(show (0:Int)≤B∧(B:Int)<16;omega)|(show (0:Int)≤C∧(C:Int)<16;omega))|(refine zpu htr ?_)|refine zst ?_|refine zbx ?_ ?_|refine zgx ?_ ?_|refine eqR ?_));(all_goals (try (conv=>whnf)))
 all_goals exact zF_
theorem QoV (x:List Nat) (pc:Nat) (c:List Nat) (o:Int) (A B C:Nat) (m:Int) (hx:x.length=16) (hc:c.length=8) (hxr:∀ y∈x,y<4294967296) (hcr:∀ y∈c,y<4294967296) (hpc:pc<4294967296) (hA:A<16) (hB:B<16) (hC:C<16) (hm:o=58→0≤m∧m<8) (hmr: -32768≤m∧m≤65535) (ho:o=59) :
  Fn Tryz.prog 36 [.agg (Qao x pc c),.agg (iv o A B C m)] [] (· =⟨.tup [.agg (Qao (exX x pc c o A B C m) (exP x pc c o A B m) (exC x pc c o A m)),.agg (exE x o A m)],[],[]⟩):=by
 have eX:exX x pc c o A B C m=x:=by unfold exX;rw [if_neg (by omega),if_neg (by omega),if_neg (by omega),if_neg (by omega),if_neg (by omega)]
 have eP:exP x pc c o A B m=w32 ((pc:Int)+4):=by unfold exP;rw [if_neg (by omega),if_neg (by omega),if_neg (by omega),if_neg (by omega),if_neg (by omega)]
 have eC:exC x pc c o A m=wrL c m (x.getD A 0):=by unfold exC;rw [if_neg (by omega),if_neg (by omega),if_pos (by omega)]
 have eE:exE x o A m= [.int .i64 0,.int .i64 0,.int .i64 0,.int .u32 (0:Nat)]:=by unfold exE;rw [if_neg (by omega),if_neg (by omega),if_neg (by omega),if_neg (by omega),if_neg (by omega)]
 rw [eX,eP,eC,eE]
 have rA:=Qak x pc c A hx hA
 have rB:=Qak x pc c B hx hB
 have rC:=Qak x pc c C hx hC
 have gp:=Qas x pc c hx
 have qm:IntKind.u32.wrap m=((w32 m:Nat):Int):=Qav m
 have q4:IntKind.u32.wrap ((pc:Int)+4)=((w32 ((pc:Int)+4):Nat):Int):=Qav _
 have xA:=Qad hxr A
 have xB:=Qad hxr B
 have xC:=Qad hxr C
 have lm:=Qax m
 have hl:=Qai x pc c hx hc
 have hs:=Qae x pc c
 have hk:=Qab x pc c
 have hz1:=Qac hl
 have hst:=Qo3 x pc c m (x.getD A 0) hx hc xA
 rw [Qqx] at hst
 have hl2:=Qai x pc (wrL c m (x.getD A 0)) hx (by rw [QeJ];exact hc)
 have hs2:=Qae x pc (wrL c m (x.getD A 0))
 have hk2:=Qab x pc (wrL c m (x.getD A 0))
 have hw1:QaF (Qao x pc c) 0 (Qao x pc (wrL c m (x.getD A 0)))=Qao x pc (wrL c m (x.getD A 0)):=Qbt (by omega)
 have hw2:=QaB x pc (wrL c m (x.getD A 0)) (w32 ((pc:Int)+4)) hx
 have hl3:=Qai x (w32 ((pc:Int)+4)) (wrL c m (x.getD A 0)) hx (by rw [QeJ];exact hc)
 have hs3:=Qae x (w32 ((pc:Int)+4)) (wrL c m (x.getD A 0))
 have hk3:=Qab x (w32 ((pc:Int)+4)) (wrL c m (x.getD A 0))
 have hz3:=Qac hl3
 have gp2:=Qas x pc (wrL c m (x.getD A 0)) hx
 generalize Qao x (w32 ((pc:Int)+4)) (wrL c m (x.getD A 0))=C3 at *
 generalize Qao x pc (wrL c m (x.getD A 0))=C2 at *
 clear eX eP eC eE hxr hcr hm
 generalize x.getD A 0=vA at *
 generalize x.getD B 0=vB at *
 generalize x.getD C 0=vC at *
 skip
 generalize Qao x pc c=CC at *
 generalize w32 m=mm at *
 generalize w32 ((pc:Int)+4)=p4 at *
 refine fnW Tryz.func36 ?_
 (repeat' ((conv=>whnf);first|(intro hb;first|exact zk2 hb|(try (replace hb:=zn0 hb)))|((with_reducible apply Ge.mk (α:=SV)); · first|exact rA|exact rB|exact rC|exact gp|exact gp2)|(with_reducible first|refine zv qm ?_|refine zv q4 ?_|refine zv (QbI (by omega) (by omega)) ?_)|((with_reducible apply Vl.mk (α:=List SV)); · first|exact hw1|exact hw2|exact hz1 _ rfl|exact hz3 _ rfl)|(apply Sg.mk; · first|exact Qaj C3 hl3|exact Qaj C2 hl2|exact Qaj CC hl)|(apply Sd.mk; · first|exact ⟨hl,hk,rfl,(by show 0+CC.length≤25;omega)⟩|exact ⟨hl3,hk3,rfl,(by show 0+C3.length≤25;omega)⟩|exact ⟨hl2,hk2,rfl,(by show 0+C2.length≤CC.length;omega)⟩|(refine ⟨rfl,rfl,rfl,?_⟩;show 16+1≤C2.length;omega)|(refine ⟨rfl,rfl,rfl,?_⟩;show 0+16+1≤C2.length;omega)|(show (0:Int)≤A∧(A:Int)<16;omega)|(show (0:Int)≤B∧(B:Int)<16;omega)|(show (0:Int)≤C∧(C:Int)<16;omega))|(refine zpu hst ?_)|refine zst ?_|refine zbx ?_ ?_|refine zgx ?_ ?_|refine eqR ?_));(all_goals (try (conv=>whnf)))
 all_goals exact zF_
theorem Qwt (x:List Nat) (pc:Nat) (c:List Nat) (o:Int) (A B C:Nat) (m:Int) (hx:x.length=16) (hc:c.length=8) (hxr:∀ y∈x,y<4294967296) (hcr:∀ y∈c,y<4294967296) (hpc:pc<4294967296) (hA:A<16) (hB:B<16) (hC:C<16) (hm:o=58→0≤m∧m<8) (hmr: -32768≤m∧m≤65535) (ho:o=60) :
  Fn Tryz.prog 36 [.agg (Qao x pc c),.agg (iv o A B C m)] [] (· =⟨.tup [.agg (Qao (exX x pc c o A B C m) (exP x pc c o A B m) (exC x pc c o A m)),.agg (exE x o A m)],[],[]⟩):=by
 have eX:exX x pc c o A B C m=x:=by unfold exX;rw [if_neg (by omega),if_neg (by omega),if_neg (by omega),if_neg (by omega),if_neg (by omega)]
 have eP:exP x pc c o A B m=w32 ((pc:Int)+4):=by unfold exP;rw [if_neg (by omega),if_neg (by omega),if_neg (by omega),if_neg (by omega),if_neg (by omega)]
 have eC:exC x pc c o A m=c:=by unfold exC;rw [if_neg (by omega),if_neg (by omega),if_neg (by omega)]
 have eE:exE x o A m= [.int .i64 1,.int .i64 m,.int .i64 (A:Nat),.int .u32 (0:Nat)]:=by unfold exE;rw [if_pos (by omega)]
 rw [eX,eP,eC,eE]
 have rA:=Qak x pc c A hx hA
 have rB:=Qak x pc c B hx hB
 have rC:=Qak x pc c C hx hC
 have gp:=Qas x pc c hx
 have qm:IntKind.u32.wrap m=((w32 m:Nat):Int):=Qav m
 have q4:IntKind.u32.wrap ((pc:Int)+4)=((w32 ((pc:Int)+4):Nat):Int):=Qav _
 have xA:=Qad hxr A
 have xB:=Qad hxr B
 have xC:=Qad hxr C
 have lm:=Qax m
 have hl:=Qai x pc c hx hc
 have hs:=Qae x pc c
 have hk:=Qab x pc c
 have hz1:=Qac hl
 obtain ⟨PP,hPP⟩:∃ PP,w32 ((pc:Int)+4)=PP:=⟨_,rfl⟩
 rw [hPP]
 rw [hPP] at q4
 have hw2:=QaB x pc c PP hx
 have hl3:=Qai x PP c hx hc
 have hs3:=Qae x PP c
 have hk3:=Qab x PP c
 have hz3:=Qac hl3
 generalize Qao x PP c=C3 at *
 clear eX eP eC eE hxr hcr hm
 generalize x.getD A 0=vA at *
 generalize x.getD B 0=vB at *
 generalize x.getD C 0=vC at *
 skip
 generalize Qao x pc c=CC at *
 generalize w32 m=mm at *
 generalize w32 ((pc:Int)+4)=p4 at *
 refine fnW Tryz.func36 ?_
 (repeat' ((conv=>whnf);first|(intro hb;first|exact zk2 hb|(try (replace hb:=zn0 hb)))|((with_reducible apply Ge.mk (α:=SV)); · first|exact rA|exact rB|exact rC|exact gp|exact gp2)|(with_reducible first|refine zv qm ?_|refine zv q4 ?_)|((with_reducible apply Vl.mk (α:=List SV)); · first|exact hw2|exact hz1 _ rfl|exact hz3 _ rfl)|(apply Sg.mk; · first|exact Qaj C3 hl3|exact Qaj CC hl)|(apply Sd.mk; · first|exact ⟨hl,hk,rfl,(by show 0+CC.length≤25;omega)⟩|exact ⟨hl3,hk3,rfl,(by show 0+C3.length≤25;omega)⟩|(refine ⟨rfl,rfl,rfl,?_⟩;show 16+1≤CC.length;omega)|(refine ⟨rfl,rfl,rfl,?_⟩;show 0+16+1≤CC.length;omega)|(show (0:Int)≤A∧(A:Int)<16;omega)|(show (0:Int)≤B∧(B:Int)<16;omega)|(show (0:Int)≤C∧(C:Int)<16;omega))|(refine And.intro rfl ?_)|refine zst ?_|refine zbx ?_ ?_|refine zgx ?_ ?_|refine eqR ?_));(all_goals (try (conv=>whnf)))
 all_goals exact zF_
theorem Qs9 (x:List Nat) (pc:Nat) (c:List Nat) (o:Int) (A B C:Nat) (m:Int) (hx:x.length=16) (hc:c.length=8) (hxr:∀ y∈x,y<4294967296) (hcr:∀ y∈c,y<4294967296) (hpc:pc<4294967296) (hA:A<16) (hB:B<16) (hC:C<16) (hm:o=58→0≤m∧m<8) (hmr: -32768≤m∧m≤65535) (ho:o=61) :
  Fn Tryz.prog 36 [.agg (Qao x pc c),.agg (iv o A B C m)] [] (· =⟨.tup [.agg (Qao (exX x pc c o A B C m) (exP x pc c o A B m) (exC x pc c o A m)),.agg (exE x o A m)],[],[]⟩):=by
 have eX:exX x pc c o A B C m=x:=by unfold exX;rw [if_neg (by omega),if_neg (by omega),if_neg (by omega),if_neg (by omega),if_neg (by omega)]
 have eP:exP x pc c o A B m=w32 ((pc:Int)+4):=by unfold exP;rw [if_neg (by omega),if_neg (by omega),if_neg (by omega),if_neg (by omega),if_neg (by omega)]
 have eC:exC x pc c o A m=c:=by unfold exC;rw [if_neg (by omega),if_neg (by omega),if_neg (by omega)]
 have eE:exE x o A m= [.int .i64 2,.int .i64 m,.int .i64 0,.int .u32 (x.getD A 0:Nat)]:=by unfold exE;rw [if_neg (by omega),if_pos (by omega)]
 rw [eX,eP,eC,eE]
 have rA:=Qak x pc c A hx hA
 have rB:=Qak x pc c B hx hB
 have rC:=Qak x pc c C hx hC
 have gp:=Qas x pc c hx
 have qm:IntKind.u32.wrap m=((w32 m:Nat):Int):=Qav m
 have q4:IntKind.u32.wrap ((pc:Int)+4)=((w32 ((pc:Int)+4):Nat):Int):=Qav _
 have xA:=Qad hxr A
 have xB:=Qad hxr B
 have xC:=Qad hxr C
 have lm:=Qax m
 have hl:=Qai x pc c hx hc
 have hs:=Qae x pc c
 have hk:=Qab x pc c
 have hz1:=Qac hl
 obtain ⟨PP,hPP⟩:∃ PP,w32 ((pc:Int)+4)=PP:=⟨_,rfl⟩
 rw [hPP]
 rw [hPP] at q4
 have hw2:=QaB x pc c PP hx
 have hl3:=Qai x PP c hx hc
 have hs3:=Qae x PP c
 have hk3:=Qab x PP c
 have hz3:=Qac hl3
 generalize Qao x PP c=C3 at *
 clear eX eP eC eE hxr hcr hm
 generalize x.getD A 0=vA at *
 generalize x.getD B 0=vB at *
 generalize x.getD C 0=vC at *
 skip
 generalize Qao x pc c=CC at *
 generalize w32 m=mm at *
 generalize w32 ((pc:Int)+4)=p4 at *
 refine fnW Tryz.func36 ?_
 (repeat' ((conv=>whnf);first|(intro hb;first|exact zk2 hb|(try (replace hb:=zn0 hb)))|((with_reducible apply Ge.mk (α:=SV)); · first|exact rA|exact rB|exact rC|exact gp|exact gp2)|(with_reducible first|refine zv qm ?_|refine zv q4 ?_)|((with_reducible apply Vl.mk (α:=List SV)); · first|exact hw2|exact hz1 _ rfl|exact hz3 _ rfl)|(apply Sg.mk; · first|exact Qaj C3 hl3|exact Qaj CC hl)|(apply Sd.mk; · first|exact ⟨hl,hk,rfl,(by show 0+CC.length≤25;omega)⟩|exact ⟨hl3,hk3,rfl,(by show 0+C3.length≤25;omega)⟩|(refine ⟨rfl,rfl,rfl,?_⟩;show 16+1≤CC.length;omega)|(refine ⟨rfl,rfl,rfl,?_⟩;show 0+16+1≤CC.length;omega)|(show (0:Int)≤A∧(A:Int)<16;omega)|(show (0:Int)≤B∧(B:Int)<16;omega)|(show (0:Int)≤C∧(C:Int)<16;omega))|(refine And.intro rfl ?_)|refine zst ?_|refine zbx ?_ ?_|refine zgx ?_ ?_|refine eqR ?_));(all_goals (try (conv=>whnf)))
 all_goals exact zF_
theorem Qrw (x:List Nat) (pc:Nat) (c:List Nat) (o:Int) (A B C:Nat) (m:Int) (hx:x.length=16) (hc:c.length=8) (hxr:∀ y∈x,y<4294967296) (hcr:∀ y∈c,y<4294967296) (hpc:pc<4294967296) (hA:A<16) (hB:B<16) (hC:C<16) (hm:o=58→0≤m∧m<8) (hmr: -32768≤m∧m≤65535) (ho:o=62) :
  Fn Tryz.prog 36 [.agg (Qao x pc c),.agg (iv o A B C m)] [] (· =⟨.tup [.agg (Qao (exX x pc c o A B C m) (exP x pc c o A B m) (exC x pc c o A m)),.agg (exE x o A m)],[],[]⟩):=by
 have eX:exX x pc c o A B C m=x:=by unfold exX;rw [if_neg (by omega),if_neg (by omega),if_neg (by omega),if_neg (by omega),if_neg (by omega)]
 have eP:exP x pc c o A B m=w32 ((pc:Int)+4):=by unfold exP;rw [if_neg (by omega),if_neg (by omega),if_neg (by omega),if_neg (by omega),if_neg (by omega)]
 have eC:exC x pc c o A m=c:=by unfold exC;rw [if_neg (by omega),if_neg (by omega),if_neg (by omega)]
 have eE:exE x o A m= [.int .i64 3,.int .i64 0,.int .i64 0,.int .u32 (0:Nat)]:=by unfold exE;rw [if_neg (by omega),if_neg (by omega),if_pos (by omega)]
 rw [eX,eP,eC,eE]
 have rA:=Qak x pc c A hx hA
 have rB:=Qak x pc c B hx hB
 have rC:=Qak x pc c C hx hC
 have gp:=Qas x pc c hx
 have qm:IntKind.u32.wrap m=((w32 m:Nat):Int):=Qav m
 have q4:IntKind.u32.wrap ((pc:Int)+4)=((w32 ((pc:Int)+4):Nat):Int):=Qav _
 have xA:=Qad hxr A
 have xB:=Qad hxr B
 have xC:=Qad hxr C
 have lm:=Qax m
 have hl:=Qai x pc c hx hc
 have hs:=Qae x pc c
 have hk:=Qab x pc c
 have hz1:=Qac hl
 obtain ⟨PP,hPP⟩:∃ PP,w32 ((pc:Int)+4)=PP:=⟨_,rfl⟩
 rw [hPP]
 rw [hPP] at q4
 have hw2:=QaB x pc c PP hx
 have hl3:=Qai x PP c hx hc
 have hs3:=Qae x PP c
 have hk3:=Qab x PP c
 have hz3:=Qac hl3
 generalize Qao x PP c=C3 at *
 clear eX eP eC eE hxr hcr hm
 generalize x.getD A 0=vA at *
 generalize x.getD B 0=vB at *
 generalize x.getD C 0=vC at *
 skip
 generalize Qao x pc c=CC at *
 generalize w32 m=mm at *
 generalize w32 ((pc:Int)+4)=p4 at *
 refine fnW Tryz.func36 ?_
 (repeat' ((conv=>whnf);first|(intro hb;first|exact zk2 hb|(try (replace hb:=zn0 hb)))|((with_reducible apply Ge.mk (α:=SV)); · first|exact rA|exact rB|exact rC|exact gp|exact gp2)|(with_reducible first|refine zv qm ?_|refine zv q4 ?_)|((with_reducible apply Vl.mk (α:=List SV)); · first|exact hw2|exact hz1 _ rfl|exact hz3 _ rfl)|(apply Sg.mk; · first|exact Qaj C3 hl3|exact Qaj CC hl)|(apply Sd.mk; · first|exact ⟨hl,hk,rfl,(by show 0+CC.length≤25;omega)⟩|exact ⟨hl3,hk3,rfl,(by show 0+C3.length≤25;omega)⟩|(refine ⟨rfl,rfl,rfl,?_⟩;show 16+1≤CC.length;omega)|(refine ⟨rfl,rfl,rfl,?_⟩;show 0+16+1≤CC.length;omega)|(show (0:Int)≤A∧(A:Int)<16;omega)|(show (0:Int)≤B∧(B:Int)<16;omega)|(show (0:Int)≤C∧(C:Int)<16;omega))|(refine And.intro rfl ?_)|refine zst ?_|refine zbx ?_ ?_|refine zgx ?_ ?_|refine eqR ?_));(all_goals (try (conv=>whnf)))
 all_goals exact zF_
theorem QlX (x:List Nat) (pc:Nat) (c:List Nat) (o:Int) (A B C:Nat) (m:Int) (hx:x.length=16) (hc:c.length=8) (hxr:∀ y∈x,y<4294967296) (hcr:∀ y∈c,y<4294967296) (hpc:pc<4294967296) (hA:A<16) (hB:B<16) (hC:C<16) (hm:o=58→0≤m∧m<8) (hmr: -32768≤m∧m≤65535) (ho:o=63) :
  Fn Tryz.prog 36 [.agg (Qao x pc c),.agg (iv o A B C m)] [] (· =⟨.tup [.agg (Qao (exX x pc c o A B C m) (exP x pc c o A B m) (exC x pc c o A m)),.agg (exE x o A m)],[],[]⟩):=by
 have eX:exX x pc c o A B C m=x:=by unfold exX;rw [if_neg (by omega),if_neg (by omega),if_neg (by omega),if_neg (by omega),if_neg (by omega)]
 have eP:exP x pc c o A B m=w32 ((pc:Int)+4):=by unfold exP;rw [if_neg (by omega),if_neg (by omega),if_neg (by omega),if_neg (by omega),if_neg (by omega)]
 have eC:exC x pc c o A m=c:=by unfold exC;rw [if_neg (by omega),if_neg (by omega),if_neg (by omega)]
 have eE:exE x o A m= [.int .i64 5,.int .i64 0,.int .i64 0,.int .u32 (0:Nat)]:=by unfold exE;rw [if_neg (by omega),if_neg (by omega),if_neg (by omega),if_pos (by omega)]
 rw [eX,eP,eC,eE]
 have rA:=Qak x pc c A hx hA
 have rB:=Qak x pc c B hx hB
 have rC:=Qak x pc c C hx hC
 have gp:=Qas x pc c hx
 have qm:IntKind.u32.wrap m=((w32 m:Nat):Int):=Qav m
 have q4:IntKind.u32.wrap ((pc:Int)+4)=((w32 ((pc:Int)+4):Nat):Int):=Qav _
 have xA:=Qad hxr A
 have xB:=Qad hxr B
 have xC:=Qad hxr C
 have lm:=Qax m
 have hl:=Qai x pc c hx hc
 have hs:=Qae x pc c
 have hk:=Qab x pc c
 have hz1:=Qac hl
 obtain ⟨PP,hPP⟩:∃ PP,w32 ((pc:Int)+4)=PP:=⟨_,rfl⟩
 rw [hPP]
 rw [hPP] at q4
 have hw2:=QaB x pc c PP hx
 have hl3:=Qai x PP c hx hc
 have hs3:=Qae x PP c
 have hk3:=Qab x PP c
 have hz3:=Qac hl3
 generalize Qao x PP c=C3 at *
 clear eX eP eC eE hxr hcr hm
 generalize x.getD A 0=vA at *
 generalize x.getD B 0=vB at *
 generalize x.getD C 0=vC at *
 skip
 generalize Qao x pc c=CC at *
 generalize w32 m=mm at *
 generalize w32 ((pc:Int)+4)=p4 at *
 refine fnW Tryz.func36 ?_
 (repeat' ((conv=>whnf);first|(intro hb;first|exact zk2 hb|(try (replace hb:=zn0 hb)))|((with_reducible apply Ge.mk (α:=SV)); · first|exact rA|exact rB|exact rC|exact gp|exact gp2)|(with_reducible first|refine zv qm ?_|refine zv q4 ?_)|((with_reducible apply Vl.mk (α:=List SV)); · first|exact hw2|exact hz1 _ rfl|exact hz3 _ rfl)|(apply Sg.mk; · first|exact Qaj C3 hl3|exact Qaj CC hl)|(apply Sd.mk; · first|exact ⟨hl,hk,rfl,(by show 0+CC.length≤25;omega)⟩|exact ⟨hl3,hk3,rfl,(by show 0+C3.length≤25;omega)⟩|(refine ⟨rfl,rfl,rfl,?_⟩;show 16+1≤CC.length;omega)|(refine ⟨rfl,rfl,rfl,?_⟩;show 0+16+1≤CC.length;omega)|(show (0:Int)≤A∧(A:Int)<16;omega)|(show (0:Int)≤B∧(B:Int)<16;omega)|(show (0:Int)≤C∧(C:Int)<16;omega))|(refine And.intro rfl ?_)|refine zst ?_|refine zbx ?_ ?_|refine zgx ?_ ?_|refine eqR ?_));(all_goals (try (conv=>whnf)))
 all_goals exact zF_
theorem Qnn (x:List Nat) (pc:Nat) (c:List Nat) (o:Int) (A B C:Nat) (m:Int) (hx:x.length=16) (hc:c.length=8) (hxr:∀ y∈x,y<4294967296) (hcr:∀ y∈c,y<4294967296) (hpc:pc<4294967296) (hA:A<16) (hB:B<16) (hC:C<16) (hm:o=58→0≤m∧m<8) (hmr: -32768≤m∧m≤65535) (ho:o=64) :
  Fn Tryz.prog 36 [.agg (Qao x pc c),.agg (iv o A B C m)] [] (· =⟨.tup [.agg (Qao (exX x pc c o A B C m) (exP x pc c o A B m) (exC x pc c o A m)),.agg (exE x o A m)],[],[]⟩):=by
 have eX:exX x pc c o A B C m=x:=by unfold exX;rw [if_neg (by omega),if_neg (by omega),if_neg (by omega),if_neg (by omega),if_neg (by omega)]
 have eP:exP x pc c o A B m=w32 ((pc:Int)+4):=by unfold exP;rw [if_neg (by omega),if_neg (by omega),if_neg (by omega),if_neg (by omega),if_neg (by omega)]
 have eC:exC x pc c o A m=c:=by unfold exC;rw [if_neg (by omega),if_neg (by omega),if_neg (by omega)]
 have eE:exE x o A m= [.int .i64 4,.int .i64 0,.int .i64 0,.int .u32 (0:Nat)]:=by unfold exE;rw [if_neg (by omega),if_neg (by omega),if_neg (by omega),if_neg (by omega),if_pos (by omega)]
 rw [eX,eP,eC,eE]
 have rA:=Qak x pc c A hx hA
 have rB:=Qak x pc c B hx hB
 have rC:=Qak x pc c C hx hC
 have gp:=Qas x pc c hx
 have qm:IntKind.u32.wrap m=((w32 m:Nat):Int):=Qav m
 have q4:IntKind.u32.wrap ((pc:Int)+4)=((w32 ((pc:Int)+4):Nat):Int):=Qav _
 have xA:=Qad hxr A
 have xB:=Qad hxr B
 have xC:=Qad hxr C
 have lm:=Qax m
 have hl:=Qai x pc c hx hc
 have hs:=Qae x pc c
 have hk:=Qab x pc c
 have hz1:=Qac hl
 obtain ⟨PP,hPP⟩:∃ PP,w32 ((pc:Int)+4)=PP:=⟨_,rfl⟩
 rw [hPP]
 rw [hPP] at q4
 have hw2:=QaB x pc c PP hx
 have hl3:=Qai x PP c hx hc
 have hs3:=Qae x PP c
 have hk3:=Qab x PP c
 have hz3:=Qac hl3
 generalize Qao x PP c=C3 at *
 clear eX eP eC eE hxr hcr hm
 generalize x.getD A 0=vA at *
 generalize x.getD B 0=vB at *
 generalize x.getD C 0=vC at *
 skip
 generalize Qao x pc c=CC at *
 generalize w32 m=mm at *
 generalize w32 ((pc:Int)+4)=p4 at *
 refine fnW Tryz.func36 ?_
 (repeat' ((conv=>whnf);first|(intro hb;first|exact zk2 hb|(try (replace hb:=zn0 hb)))|((with_reducible apply Ge.mk (α:=SV)); · first|exact rA|exact rB|exact rC|exact gp|exact gp2)|(with_reducible first|refine zv qm ?_|refine zv q4 ?_)|((with_reducible apply Vl.mk (α:=List SV)); · first|exact hw2|exact hz1 _ rfl|exact hz3 _ rfl)|(apply Sg.mk; · first|exact Qaj C3 hl3|exact Qaj CC hl)|(apply Sd.mk; · first|exact ⟨hl,hk,rfl,(by show 0+CC.length≤25;omega)⟩|exact ⟨hl3,hk3,rfl,(by show 0+C3.length≤25;omega)⟩|(refine ⟨rfl,rfl,rfl,?_⟩;show 16+1≤CC.length;omega)|(refine ⟨rfl,rfl,rfl,?_⟩;show 0+16+1≤CC.length;omega)|(show (0:Int)≤A∧(A:Int)<16;omega)|(show (0:Int)≤B∧(B:Int)<16;omega)|(show (0:Int)≤C∧(C:Int)<16;omega))|(refine And.intro rfl ?_)|refine zst ?_|refine zbx ?_ ?_|refine zgx ?_ ?_|refine eqR ?_));(all_goals (try (conv=>whnf)))
 all_goals exact zF_
end Go.Proofs.YtjgikeckbeeehaaGreat
