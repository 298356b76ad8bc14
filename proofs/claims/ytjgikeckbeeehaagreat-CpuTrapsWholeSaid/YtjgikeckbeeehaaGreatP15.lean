import Derived.Test.YtjgikeckbeeehaaGreatP14
set_option linter.unusedSimpArgs false
set_option linter.unusedVariables false
set_option maxHeartbeats 100000000
set_option maxRecDepth 100000
namespace Go.Proofs.YtjgikeckbeeehaaGreat
open Go Go.RowKit
theorem QjT (x:List Nat) (pc:Nat) (c:List Nat) (o:Int) (A B C:Nat) (m:Int) (hx:x.length=16) (hc:c.length=8) (hxr:∀ y∈x,y<4294967296) (hcr:∀ y∈c,y<4294967296) (hpc:pc<4294967296) (hA:A<16) (hB:B<16) (hC:C<16) (hm:o=58→0≤m∧m<8) (hmr: -32768≤m∧m≤65535) (ho:(40≤o∧o≤45)∧Qfu o (x.getD A 0) (x.getD B 0)=true) :
  Fn Tryz.prog 72 [.agg (Qao x pc c),.agg (iv o A B C m)] [] (· =⟨.a (.agg (Qao (exX x pc c o A B C m) (exP x pc c o A B m) (exC x pc c o A m))),[],[]⟩):=by
 have eX:exX x pc c o A B C m=x:=by unfold exX;rw [if_neg (by omega),if_neg (by omega),if_neg (by omega),if_neg (by omega),if_neg (by omega)]
 have eP:exP x pc c o A B m=w32 ((pc:Int)+w32 (4*(w32 m:Nat))):=by unfold exP;rw [if_pos ho.1,ho.2];rfl
 have eC:exC x pc c o A m=c:=by unfold exC;rw [if_neg (by omega),if_neg (by omega),if_neg (by omega)]
 rw [eX,eP,eC]
 have rA:=Qak x pc c A hx hA
 have rB:=Qak x pc c B hx hB
 have rC:=Qak x pc c C hx hC
 have qm:IntKind.u32.wrap m=((w32 m:Nat):Int):=Qav m
 have q4:IntKind.u32.wrap ((pc:Int)+4)=((w32 ((pc:Int)+4):Nat):Int):=Qav _
 have q4m:IntKind.u32.wrap (4*((w32 m:Nat):Int))=((w32 (4*(w32 m:Nat)):Nat):Int):=Qav _
 have xA:=Qad hxr A
 have xB:=Qad hxr B
 have lm:=Qax m
 have hlCC:=Qai (x) (pc) (c) hx hc
 have hsCC:=Qae (x) (pc) (c)
 have hkCC:=Qab (x) (pc) (c)
 have hzCC:=Qac hlCC
 have gpCC:=Qas (x) (pc) (c) hx
 obtain ⟨PP,hPP⟩:∃ PP,w32 ((pc:Int)+w32 (4*(w32 m:Nat)))=PP:=⟨_,rfl⟩
 rw [hPP]
 have qT:IntKind.u32.wrap ((pc:Int)+((w32 (4*(w32 m:Nat)):Nat):Int))=(PP:Int):=by rw [Qav,hPP]
 have htk:=QgY o (x.getD A 0) (x.getD B 0) xA xB
 rw [ho.2] at htk
 replace ho:=ho.1
 have hw2:=QaB x pc c PP hx
 have hlC3:=Qai (x) (PP) (c) hx hc
 have hsC3:=Qae (x) (PP) (c)
 have hkC3:=Qab (x) (PP) (c)
 have hzC3:=Qac hlC3
 have gpC3:=Qas (x) (PP) (c) hx
 generalize Qao (x) (PP) (c)=C3 at *
 clear eX eP eC
 generalize x.getD A 0=vA at *
 generalize x.getD B 0=vB at *
 generalize x.getD C 0=vC at *
 generalize Qao (x) (pc) (c)=CC at *
 generalize w32 (4*((w32 m:Nat):Int))=m4 at *
 generalize w32 m=mm at *
 generalize w32 ((pc:Int)+4)=p4 at *
 refine fnW Tryz.func72 ?_
 (repeat' ((conv=>whnf);first|(intro hb;first|exact zk2 hb|(try (replace hb:=zn0 hb)))|(with_reducible first|refine zv qm ?_|refine zv q4 ?_|refine zv q4m ?_|refine zv qT ?_)|(apply Sd.mk; · first|exact ⟨hlCC,hkCC,rfl,(by show 0+CC.length≤25;omega)⟩|exact ⟨hlC3,hkC3,rfl,(by show 0+C3.length≤25;omega)⟩|exact ⟨hlCC,hkCC,rfl,(by show 0+CC.length≤C3.length;omega)⟩|exact ⟨hlC3,hkC3,rfl,(by show 0+C3.length≤CC.length;omega)⟩|(show (0:Int)≤A∧(A:Int)<16;omega)|(show (0:Int)≤B∧(B:Int)<16;omega)|(refine ⟨rfl,rfl,rfl,?_⟩;show 0+16+1≤CC.length;omega)|(refine ⟨rfl,rfl,rfl,?_⟩;show 0+16+1≤C3.length;omega))|((with_reducible apply Vl.mk (α:=List SV)); · first|exact hw2|exact hzCC _ (by first|rfl|assumption)|exact hzC3 _ (by first|rfl|assumption))|(apply Sg.mk; · first|exact Qaj CC hlCC|exact Qaj C3 hlC3)|((with_reducible apply Ge.mk (α:=SV)); · first|exact rA|exact rB|exact rC|exact gpCC|exact gpC3)|(refine zpu htk ?_)|refine zst ?_|refine zbx ?_ ?_|refine zgx ?_ ?_|refine eqR ?_));(all_goals (try (conv=>whnf)))
 all_goals exact zF_
theorem Qht (x:List Nat) (pc:Nat) (c:List Nat) (o:Int) (A B C:Nat) (m:Int) (hx:x.length=16) (hc:c.length=8) (hxr:∀ y∈x,y<4294967296) (hcr:∀ y∈c,y<4294967296) (hpc:pc<4294967296) (hA:A<16) (hB:B<16) (hC:C<16) (hm:o=58→0≤m∧m<8) (hmr: -32768≤m∧m≤65535) (ho:(40≤o∧o≤45)∧Qfu o (x.getD A 0) (x.getD B 0)=false) :
  Fn Tryz.prog 72 [.agg (Qao x pc c),.agg (iv o A B C m)] [] (· =⟨.a (.agg (Qao (exX x pc c o A B C m) (exP x pc c o A B m) (exC x pc c o A m))),[],[]⟩):=by
 have eX:exX x pc c o A B C m=x:=by unfold exX;rw [if_neg (by omega),if_neg (by omega),if_neg (by omega),if_neg (by omega),if_neg (by omega)]
 have eP:exP x pc c o A B m=w32 ((pc:Int)+4):=by unfold exP;rw [if_pos ho.1,ho.2];rfl
 have eC:exC x pc c o A m=c:=by unfold exC;rw [if_neg (by omega),if_neg (by omega),if_neg (by omega)]
 rw [eX,eP,eC]
 have rA:=Qak x pc c A hx hA
 have rB:=Qak x pc c B hx hB
 have rC:=Qak x pc c C hx hC
 have qm:IntKind.u32.wrap m=((w32 m:Nat):Int):=Qav m
 have q4:IntKind.u32.wrap ((pc:Int)+4)=((w32 ((pc:Int)+4):Nat):Int):=Qav _
 have q4m:IntKind.u32.wrap (4*((w32 m:Nat):Int))=((w32 (4*(w32 m:Nat)):Nat):Int):=Qav _
 have xA:=Qad hxr A
 have xB:=Qad hxr B
 have lm:=Qax m
 have hlCC:=Qai (x) (pc) (c) hx hc
 have hsCC:=Qae (x) (pc) (c)
 have hkCC:=Qab (x) (pc) (c)
 have hzCC:=Qac hlCC
 have gpCC:=Qas (x) (pc) (c) hx
 obtain ⟨PP,hPP⟩:∃ PP,w32 ((pc:Int)+4)=PP:=⟨_,rfl⟩
 rw [hPP]
 rw [hPP] at q4
 have htk:=QgY o (x.getD A 0) (x.getD B 0) xA xB
 rw [ho.2] at htk
 replace ho:=ho.1
 have hw2:=QaB x pc c PP hx
 have hlC3:=Qai (x) (PP) (c) hx hc
 have hsC3:=Qae (x) (PP) (c)
 have hkC3:=Qab (x) (PP) (c)
 have hzC3:=Qac hlC3
 have gpC3:=Qas (x) (PP) (c) hx
 generalize Qao (x) (PP) (c)=C3 at *
 clear eX eP eC
 generalize x.getD A 0=vA at *
 generalize x.getD B 0=vB at *
 generalize x.getD C 0=vC at *
 generalize Qao (x) (pc) (c)=CC at *
 generalize w32 (4*((w32 m:Nat):Int))=m4 at *
 generalize w32 m=mm at *
 generalize w32 ((pc:Int)+4)=p4 at *
 refine fnW Tryz.func72 ?_
 (repeat' ((conv=>whnf);first|(intro hb;first|exact zk2 hb|(try (replace hb:=zn0 hb)))|(with_reducible first|refine zv qm ?_|refine zv q4 ?_|refine zv q4m ?_)|(apply Sd.mk; · first|exact ⟨hlCC,hkCC,rfl,(by show 0+CC.length≤25;omega)⟩|exact ⟨hlC3,hkC3,rfl,(by show 0+C3.length≤25;omega)⟩|exact ⟨hlCC,hkCC,rfl,(by show 0+CC.length≤C3.length;omega)⟩|exact ⟨hlC3,hkC3,rfl,(by show 0+C3.length≤CC.length;omega)⟩|(show (0:Int)≤A∧(A:Int)<16;omega)|(show (0:Int)≤B∧(B:Int)<16;omega)|(refine ⟨rfl,rfl,rfl,?_⟩;show 0+16+1≤CC.length;omega)|(refine ⟨rfl,rfl,rfl,?_⟩;show 0+16+1≤C3.length;omega))|((with_reducible apply Vl.mk (α:=List SV)); · first|exact hw2|exact hzCC _ (by first|rfl|assumption)|exact hzC3 _ (by first|rfl|assumption))|(apply Sg.mk; · first|exact Qaj CC hlCC|exact Qaj C3 hlC3)|((with_reducible apply Ge.mk (α:=SV)); · first|exact rA|exact rB|exact rC|exact gpCC|exact gpC3)|(refine zpu htk ?_)|refine zst ?_|refine zbx ?_ ?_|refine zgx ?_ ?_|refine eqR ?_));(all_goals (try (conv=>whnf)))
 all_goals exact zF_
theorem Qu9 (x:List Nat) (pc:Nat) (c:List Nat) (o:Int) (A B C:Nat) (m:Int) (hx:x.length=16) (hc:c.length=8) (hxr:∀ y∈x,y<4294967296) (hcr:∀ y∈c,y<4294967296) (hpc:pc<4294967296) (hA:A<16) (hB:B<16) (hC:C<16) (hm:o=58→0≤m∧m<8) (hmr: -32768≤m∧m≤65535) (ho:o=48) :
  Fn Tryz.prog 72 [.agg (Qao x pc c),.agg (iv o A B C m)] [] (· =⟨.a (.agg (Qao (exX x pc c o A B C m) (exP x pc c o A B m) (exC x pc c o A m))),[],[]⟩):=by
 have eX:exX x pc c o A B C m=QaE x A (w32 ((pc:Int)+4)):=by unfold exX;rw [if_neg (by omega),if_neg (by omega),if_neg (by omega),if_pos (by omega)]
 have eP:exP x pc c o A B m=w32 ((pc:Int)+w32 (4*(w32 m:Nat))):=by unfold exP;rw [if_neg (by omega),if_pos (by omega)]
 have eC:exC x pc c o A m=c:=by unfold exC;rw [if_neg (by omega),if_neg (by omega),if_neg (by omega)]
 rw [eX,eP,eC]
 have rA:=Qak x pc c A hx hA
 have rB:=Qak x pc c B hx hB
 have rC:=Qak x pc c C hx hC
 have qm:IntKind.u32.wrap m=((w32 m:Nat):Int):=Qav m
 have q4:IntKind.u32.wrap ((pc:Int)+4)=((w32 ((pc:Int)+4):Nat):Int):=Qav _
 have q4m:IntKind.u32.wrap (4*((w32 m:Nat):Int))=((w32 (4*(w32 m:Nat)):Nat):Int):=Qav _
 have xA:=Qad hxr A
 have xB:=Qad hxr B
 have lm:=Qax m
 have hlCC:=Qai (x) (pc) (c) hx hc
 have hsCC:=Qae (x) (pc) (c)
 have hkCC:=Qab (x) (pc) (c)
 have hzCC:=Qac hlCC
 have gpCC:=Qas (x) (pc) (c) hx
 obtain ⟨V,hV⟩:∃ V,w32 ((pc:Int)+4)=V:=⟨_,rfl⟩
 obtain ⟨PP,hPP⟩:∃ PP,w32 ((pc:Int)+w32 (4*(w32 m:Nat)))=PP:=⟨_,rfl⟩
 rw [hV,hPP]
 rw [hV] at q4
 have qT:IntKind.u32.wrap ((pc:Int)+((w32 (4*(w32 m:Nat)):Nat):Int))=(PP:Int):=by rw [Qav,hPP]
 have hst:=Qc9 x pc c A V hx hc hA
 have hw2:=QaB (QaE x A V) pc c PP (by rw [Qap];exact hx)
 have hlC2:=Qai (QaE x A V) (pc) (c) (by rw [Qap];exact hx) hc
 have hsC2:=Qae (QaE x A V) (pc) (c)
 have hkC2:=Qab (QaE x A V) (pc) (c)
 have hzC2:=Qac hlC2
 have gpC2:=Qas (QaE x A V) (pc) (c) (by rw [Qap];exact hx)
 have hlC3:=Qai (QaE x A V) (PP) (c) (by rw [Qap];exact hx) hc
 have hsC3:=Qae (QaE x A V) (PP) (c)
 have hkC3:=Qab (QaE x A V) (PP) (c)
 have hzC3:=Qac hlC3
 have gpC3:=Qas (QaE x A V) (PP) (c) (by rw [Qap];exact hx)
 generalize Qao (QaE x A V) (PP) (c)=C3 at *
 generalize Qao (QaE x A V) (pc) (c)=C2 at *
 clear eX eP eC
 generalize x.getD A 0=vA at *
 generalize x.getD B 0=vB at *
 generalize x.getD C 0=vC at *
 generalize Qao (x) (pc) (c)=CC at *
 generalize w32 (4*((w32 m:Nat):Int))=m4 at *
 generalize w32 m=mm at *
 generalize w32 ((pc:Int)+4)=p4 at *
 refine fnW Tryz.func72 ?_
 (repeat' ((conv=>whnf);first|(intro hb;first|exact zk2 hb|(try (replace hb:=zn0 hb)))|(with_reducible first|refine zv qm ?_|refine zv q4 ?_|refine zv q4m ?_|refine zv qT ?_)|(apply Sd.mk; · first|exact ⟨hlCC,hkCC,rfl,(by show 0+CC.length≤25;omega)⟩|exact ⟨hlC3,hkC3,rfl,(by show 0+C3.length≤25;omega)⟩|exact ⟨hlC2,hkC2,rfl,(by show 0+C2.length≤25;omega)⟩|exact ⟨hlCC,hkCC,rfl,(by show 0+CC.length≤C3.length;omega)⟩|exact ⟨hlCC,hkCC,rfl,(by show 0+CC.length≤C2.length;omega)⟩|exact ⟨hlC3,hkC3,rfl,(by show 0+C3.length≤CC.length;omega)⟩|exact ⟨hlC3,hkC3,rfl,(by show 0+C3.length≤C2.length;omega)⟩|exact ⟨hlC2,hkC2,rfl,(by show 0+C2.length≤CC.length;omega)⟩|exact ⟨hlC2,hkC2,rfl,(by show 0+C2.length≤C3.length;omega)⟩|(show (0:Int)≤A∧(A:Int)<16;omega)|(show (0:Int)≤B∧(B:Int)<16;omega)|(refine ⟨rfl,rfl,rfl,?_⟩;show 0+16+1≤CC.length;omega)|(refine ⟨rfl,rfl,rfl,?_⟩;show 0+16+1≤C3.length;omega)|(refine ⟨rfl,rfl,rfl,?_⟩;show 0+16+1≤C2.length;omega))|((with_reducible apply Vl.mk (α:=List SV)); · first|exact hw2|exact hzCC _ (by first|rfl|assumption)|exact hzC3 _ (by first|rfl|assumption)|exact hzC2 _ (by first|rfl|assumption))|(apply Sg.mk; · first|exact Qaj CC hlCC|exact Qaj C3 hlC3|exact Qaj C2 hlC2)|((with_reducible apply Ge.mk (α:=SV)); · first|exact rA|exact rB|exact rC|exact gpCC|exact gpC3|exact gpC2)|(refine zpu hst ?_)|refine zst ?_|refine zbx ?_ ?_|refine zgx ?_ ?_|refine eqR ?_));(all_goals (try (conv=>whnf)))
 all_goals exact zF_
theorem QsN (x:List Nat) (pc:Nat) (c:List Nat) (o:Int) (A B C:Nat) (m:Int) (hx:x.length=16) (hc:c.length=8) (hxr:∀ y∈x,y<4294967296) (hcr:∀ y∈c,y<4294967296) (hpc:pc<4294967296) (hA:A<16) (hB:B<16) (hC:C<16) (hm:o=58→0≤m∧m<8) (hmr: -32768≤m∧m≤65535) (ho:o=49) :
  Fn Tryz.prog 72 [.agg (Qao x pc c),.agg (iv o A B C m)] [] (· =⟨.a (.agg (Qao (exX x pc c o A B C m) (exP x pc c o A B m) (exC x pc c o A m))),[],[]⟩):=by
 have eX:exX x pc c o A B C m=QaE x A (w32 ((pc:Int)+4)):=by unfold exX;rw [if_neg (by omega),if_neg (by omega),if_neg (by omega),if_pos (by omega)]
 have eP:exP x pc c o A B m=w32 ((x.getD B 0:Nat)+(w32 m:Nat)):=by unfold exP;rw [if_neg (by omega),if_neg (by omega),if_pos (by omega)]
 have eC:exC x pc c o A m=c:=by unfold exC;rw [if_neg (by omega),if_neg (by omega),if_neg (by omega)]
 rw [eX,eP,eC]
 have rA:=Qak x pc c A hx hA
 have rB:=Qak x pc c B hx hB
 have rC:=Qak x pc c C hx hC
 have qm:IntKind.u32.wrap m=((w32 m:Nat):Int):=Qav m
 have q4:IntKind.u32.wrap ((pc:Int)+4)=((w32 ((pc:Int)+4):Nat):Int):=Qav _
 have q4m:IntKind.u32.wrap (4*((w32 m:Nat):Int))=((w32 (4*(w32 m:Nat)):Nat):Int):=Qav _
 have xA:=Qad hxr A
 have xB:=Qad hxr B
 have lm:=Qax m
 have hlCC:=Qai (x) (pc) (c) hx hc
 have hsCC:=Qae (x) (pc) (c)
 have hkCC:=Qab (x) (pc) (c)
 have hzCC:=Qac hlCC
 have gpCC:=Qas (x) (pc) (c) hx
 obtain ⟨V,hV⟩:∃ V,w32 ((pc:Int)+4)=V:=⟨_,rfl⟩
 obtain ⟨PP,hPP⟩:∃ PP,w32 ((x.getD B 0:Nat)+(w32 m:Nat))=PP:=⟨_,rfl⟩
 rw [hV,hPP]
 rw [hV] at q4
 have qT:IntKind.u32.wrap (((x.getD B 0:Nat):Int)+((w32 m:Nat):Int))=(PP:Int):=by rw [Qav,hPP]
 have hst:=Qc9 x pc c A V hx hc hA
 have hw2:=QaB (QaE x A V) pc c PP (by rw [Qap];exact hx)
 have hlC2:=Qai (QaE x A V) (pc) (c) (by rw [Qap];exact hx) hc
 have hsC2:=Qae (QaE x A V) (pc) (c)
 have hkC2:=Qab (QaE x A V) (pc) (c)
 have hzC2:=Qac hlC2
 have gpC2:=Qas (QaE x A V) (pc) (c) (by rw [Qap];exact hx)
 have hlC3:=Qai (QaE x A V) (PP) (c) (by rw [Qap];exact hx) hc
 have hsC3:=Qae (QaE x A V) (PP) (c)
 have hkC3:=Qab (QaE x A V) (PP) (c)
 have hzC3:=Qac hlC3
 have gpC3:=Qas (QaE x A V) (PP) (c) (by rw [Qap];exact hx)
 generalize Qao (QaE x A V) (PP) (c)=C3 at *
 generalize Qao (QaE x A V) (pc) (c)=C2 at *
 clear eX eP eC
 generalize x.getD A 0=vA at *
 generalize x.getD B 0=vB at *
 generalize x.getD C 0=vC at *
 generalize Qao (x) (pc) (c)=CC at *
 generalize w32 (4*((w32 m:Nat):Int))=m4 at *
 generalize w32 m=mm at *
 generalize w32 ((pc:Int)+4)=p4 at *
 refine fnW Tryz.func72 ?_
 (repeat' ((conv=>whnf);first|(intro hb;first|exact zk2 hb|(try (replace hb:=zn0 hb)))|(with_reducible first|refine zv qm ?_|refine zv q4 ?_|refine zv q4m ?_|refine zv qT ?_)|(apply Sd.mk; · first|exact ⟨hlCC,hkCC,rfl,(by show 0+CC.length≤25;omega)⟩|exact ⟨hlC3,hkC3,rfl,(by show 0+C3.length≤25;omega)⟩|exact ⟨hlC2,hkC2,rfl,(by show 0+C2.length≤25;omega)⟩|exact ⟨hlCC,hkCC,rfl,(by show 0+CC.length≤C3.length;omega)⟩|exact ⟨hlCC,hkCC,rfl,(by show 0+CC.length≤C2.length;omega)⟩|exact ⟨hlC3,hkC3,rfl,(by show 0+C3.length≤CC.length;omega)⟩|exact ⟨hlC3,hkC3,rfl,(by show 0+C3.length≤C2.length;omega)⟩|exact ⟨hlC2,hkC2,rfl,(by show 0+C2.length≤CC.length;omega)⟩|exact ⟨hlC2,hkC2,rfl,(by show 0+C2.length≤C3.length;omega)⟩|(show (0:Int)≤A∧(A:Int)<16;omega)|(show (0:Int)≤B∧(B:Int)<16;omega)|(refine ⟨rfl,rfl,rfl,?_⟩;show 0+16+1≤CC.length;omega)|(refine ⟨rfl,rfl,rfl,?_⟩;show 0+16+1≤C3.length;omega)|(refine ⟨rfl,rfl,rfl,?_⟩;show 0+16+1≤C2.length;omega))|((with_reducible apply Vl.mk (α:=List SV)); · first|exact hw2|exact hzCC _ (by first|rfl|assumption)|exact hzC3 _ (by first|rfl|assumption)|exact hzC2 _ (by first|rfl|assumption))|(apply Sg.mk; · first|exact Qaj CC hlCC|exact Qaj C3 hlC3|exact Qaj C2 hlC2)|((with_reducible apply Ge.mk (α:=SV)); · first|exact rA|exact rB|exact rC|exact gpCC|exact gpC3|exact gpC2)|(refine zpu hst ?_)|refine zst ?_|refine zbx ?_ ?_|refine zgx ?_ ?_|refine eqR ?_));(all_goals (try (conv=>whnf)))
 all_goals exact zF_
theorem Qoo (x:List Nat) (pc:Nat) (c:List Nat) (o:Int) (A B C:Nat) (m:Int) (hx:x.length=16) (hc:c.length=8) (hxr:∀ y∈x,y<4294967296) (hcr:∀ y∈c,y<4294967296) (hpc:pc<4294967296) (hA:A<16) (hB:B<16) (hC:C<16) (hm:o=58→0≤m∧m<8) (hmr: -32768≤m∧m≤65535) (ho:o=56) :
  Fn Tryz.prog 71 [.agg (Qao x pc c),.agg (iv o A B C m)] [] (· =⟨.tup [.agg (Qao (exX x pc c o A B C m) (exP x pc c o A B m) (exC x pc c o A m)),.agg (exE x o A m)],[],[]⟩):=by
 have eX:exX x pc c o A B C m=x:=by unfold exX;rw [if_neg (by omega),if_neg (by omega),if_neg (by omega),if_neg (by omega),if_neg (by omega)]
 have eP:exP x pc c o A B m=c.getD 1 0:=by unfold exP;rw [if_neg (by omega),if_neg (by omega),if_neg (by omega),if_pos (by omega)]
 have eC:exC x pc c o A m=trL pc c 7 0:=by unfold exC;rw [if_pos (by omega)]
 have eE:exE x o A m= [.int .i64 0,.int .i64 0,.int .i64 0,.int .u32 (0:Nat)]:=by unfold exE;rw [if_neg (by omega),if_neg (by omega),if_neg (by omega),if_neg (by omega),if_neg (by omega)]
 rw [eX,eP,eC,eE]
 have rA:=Qak x pc c A hx hA
 have rB:=Qak x pc c B hx hB
 have rC:=Qak x pc c C hx hC
 have qm:IntKind.u32.wrap m=((w32 m:Nat):Int):=Qav m
 have q4:IntKind.u32.wrap ((pc:Int)+4)=((w32 ((pc:Int)+4):Nat):Int):=Qav _
 have q4m:IntKind.u32.wrap (4*((w32 m:Nat):Int))=((w32 (4*(w32 m:Nat)):Nat):Int):=Qav _
 have xA:=Qad hxr A
 have xB:=Qad hxr B
 have lm:=Qax m
 have hlCC:=Qai (x) (pc) (c) hx hc
 have hsCC:=Qae (x) (pc) (c)
 have hkCC:=Qab (x) (pc) (c)
 have hzCC:=Qac hlCC
 have gpCC:=Qas (x) (pc) (c) hx
 have htr:=QbX x pc c 7 0 hx hc hcr
 rw [Qbh] at htr
 have hlC3:=Qai (x) (c.getD 1 0) (trL pc c 7 0) hx (by first|rfl|simpa using hc)
 have hsC3:=Qae (x) (c.getD 1 0) (trL pc c 7 0)
 have hkC3:=Qab (x) (c.getD 1 0) (trL pc c 7 0)
 have hzC3:=Qac hlC3
 have gpC3:=Qas (x) (c.getD 1 0) (trL pc c 7 0) hx
 generalize Qao (x) (c.getD 1 0) (trL pc c 7 0)=C3 at *
 clear eX eP eC eE
 generalize x.getD A 0=vA at *
 generalize x.getD B 0=vB at *
 generalize x.getD C 0=vC at *
 generalize Qao (x) (pc) (c)=CC at *
 generalize w32 (4*((w32 m:Nat):Int))=m4 at *
 generalize w32 m=mm at *
 generalize w32 ((pc:Int)+4)=p4 at *
 refine fnW Tryz.func71 ?_
 (repeat' ((conv=>whnf);first|(intro hb;first|exact zk2 hb|(try (replace hb:=zn0 hb)))|(with_reducible first|refine zv qm ?_|refine zv q4 ?_|refine zv q4m ?_)|(apply Sd.mk; · first|exact ⟨hlCC,hkCC,rfl,(by show 0+CC.length≤25;omega)⟩|exact ⟨hlC3,hkC3,rfl,(by show 0+C3.length≤25;omega)⟩|exact ⟨hlCC,hkCC,rfl,(by show 0+CC.length≤C3.length;omega)⟩|exact ⟨hlC3,hkC3,rfl,(by show 0+C3.length≤CC.length;omega)⟩|(show (0:Int)≤A∧(A:Int)<16;omega)|(show (0:Int)≤B∧(B:Int)<16;omega)|(refine ⟨rfl,rfl,rfl,?_⟩;show 0+16+1≤CC.length;omega)|(refine ⟨rfl,rfl,rfl,?_⟩;show 0+16+1≤C3.length;omega))|((with_reducible apply Vl.mk (α:=List SV)); · first|exact hzCC _ (by first|rfl|assumption)|exact hzC3 _ (by first|rfl|assumption))|(apply Sg.mk; · first|exact Qaj CC hlCC|exact Qaj C3 hlC3)|((with_reducible apply Ge.mk (α:=SV)); · first|exact rA|exact rB|exact rC|exact gpCC|exact gpC3)|(refine zpu htr ?_)|refine zst ?_|refine zbx ?_ ?_|refine zgx ?_ ?_|refine eqR ?_));(all_goals (try (conv=>whnf)))
 all_goals exact zF_
theorem Qsn (x:List Nat) (pc:Nat) (c:List Nat) (o:Int) (A B C:Nat) (m:Int) (hx:x.length=16) (hc:c.length=8) (hxr:∀ y∈x,y<4294967296) (hcr:∀ y∈c,y<4294967296) (hpc:pc<4294967296) (hA:A<16) (hB:B<16) (hC:C<16) (hm:o=58→0≤m∧m<8) (hmr: -32768≤m∧m≤65535) (ho:o=57) :
  Fn Tryz.prog 71 [.agg (Qao x pc c),.agg (iv o A B C m)] [] (· =⟨.tup [.agg (Qao (exX x pc c o A B C m) (exP x pc c o A B m) (exC x pc c o A m)),.agg (exE x o A m)],[],[]⟩):=by
 have eX:exX x pc c o A B C m=x:=by unfold exX;rw [if_neg (by omega),if_neg (by omega),if_neg (by omega),if_neg (by omega),if_neg (by omega)]
 have eP:exP x pc c o A B m=c.getD 2 0:=by unfold exP;rw [if_neg (by omega),if_neg (by omega),if_neg (by omega),if_neg (by omega),if_pos (by omega)]
 have eC:exC x pc c o A m=c.set 0 (Qfe (c.getD 0 0)):=by unfold exC;rw [if_neg (by omega),if_pos (by omega)]
 have eE:exE x o A m= [.int .i64 0,.int .i64 0,.int .i64 0,.int .u32 (0:Nat)]:=by unfold exE;rw [if_neg (by omega),if_neg (by omega),if_neg (by omega),if_neg (by omega),if_neg (by omega)]
 rw [eX,eP,eC,eE]
 have rA:=Qak x pc c A hx hA
 have rB:=Qak x pc c B hx hB
 have rC:=Qak x pc c C hx hC
 have qm:IntKind.u32.wrap m=((w32 m:Nat):Int):=Qav m
 have q4:IntKind.u32.wrap ((pc:Int)+4)=((w32 ((pc:Int)+4):Nat):Int):=Qav _
 have q4m:IntKind.u32.wrap (4*((w32 m:Nat):Int))=((w32 (4*(w32 m:Nat)):Nat):Int):=Qav _
 have xA:=Qad hxr A
 have xB:=Qad hxr B
 have lm:=Qax m
 have hlCC:=Qai (x) (pc) (c) hx hc
 have hsCC:=Qae (x) (pc) (c)
 have hkCC:=Qab (x) (pc) (c)
 have hzCC:=Qac hlCC
 have gpCC:=Qas (x) (pc) (c) hx
 have htr:=QtE x pc c hx hc hcr
 unfold Qxd at htr
 have hlC3:=Qai (x) (c.getD 2 0) (c.set 0 (Qfe (c.getD 0 0))) hx (by first|rfl|simpa using hc)
 have hsC3:=Qae (x) (c.getD 2 0) (c.set 0 (Qfe (c.getD 0 0)))
 have hkC3:=Qab (x) (c.getD 2 0) (c.set 0 (Qfe (c.getD 0 0)))
 have hzC3:=Qac hlC3
 have gpC3:=Qas (x) (c.getD 2 0) (c.set 0 (Qfe (c.getD 0 0))) hx
 generalize Qao (x) (c.getD 2 0) (c.set 0 (Qfe (c.getD 0 0)))=C3 at *
 clear eX eP eC eE
 generalize x.getD A 0=vA at *
 generalize x.getD B 0=vB at *
 generalize x.getD C 0=vC at *
 generalize Qao (x) (pc) (c)=CC at *
 generalize w32 (4*((w32 m:Nat):Int))=m4 at *
 generalize w32 m=mm at *
 generalize w32 ((pc:Int)+4)=p4 at *
 refine fnW Tryz.func71 ?_
 (repeat' ((conv=>whnf);first|(intro hb;first|exact zk2 hb|(try (replace hb:=zn0 hb)))|(with_reducible first|refine zv qm ?_|refine zv q4 ?_|refine zv q4m ?_)|(apply Sd.mk; · first|exact ⟨hlCC,hkCC,rfl,(by show 0+CC.length≤25;omega)⟩|exact ⟨hlC3,hkC3,rfl,(by show 0+C3.length≤25;omega)⟩|exact ⟨hlCC,hkCC,rfl,(by show 0+CC.length≤C3.length;omega)⟩|exact ⟨hlC3,hkC3,rfl,(by show 0+C3.length≤CC.length;omega)⟩|(show (0:Int)≤A∧(A:Int)<16;omega)|(show (0:Int)≤B∧(B:Int)<16;omega)|(refine ⟨rfl,rfl,rfl,?_⟩;show 0+16+1≤CC.length;omega)|(refine ⟨rfl,rfl,rfl,?_⟩;show 0+16+1≤C3.length;omega))|((with_reducible apply Vl.mk (α:=List SV)); · first|exact hzCC _ (by first|rfl|assumption)|exact hzC3 _ (by first|rfl|assumption))|(apply Sg.mk; · first|exact Qaj CC hlCC|exact Qaj C3 hlC3)|((with_reducible apply Ge.mk (α:=SV)); · first|exact rA|exact rB|exact rC|exact gpCC|exact gpC3)|(refine zpu htr ?_)|refine zst ?_|refine zbx ?_ ?_|refine zgx ?_ ?_|refine eqR ?_));(all_goals (try (conv=>whnf)))
 all_goals exact zF_
theorem QrR (x:List Nat) (pc:Nat) (c:List Nat) (o:Int) (A B C:Nat) (m:Int) (hx:x.length=16) (hc:c.length=8) (hxr:∀ y∈x,y<4294967296) (hcr:∀ y∈c,y<4294967296) (hpc:pc<4294967296) (hA:A<16) (hB:B<16) (hC:C<16) (hm:o=58→0≤m∧m<8) (hmr: -32768≤m∧m≤65535) (ho:o=58) :
  Fn Tryz.prog 71 [.agg (Qao x pc c),.agg (iv o A B C m)] [] (· =⟨.tup [.agg (Qao (exX x pc c o A B C m) (exP x pc c o A B m) (exC x pc c o A m)),.agg (exE x o A m)],[],[]⟩):=by
 have eX:exX x pc c o A B C m=QaE x A (c.getD m.toNat 0):=by unfold exX;rw [if_neg (by omega),if_neg (by omega),if_neg (by omega),if_neg (by omega),if_pos (by omega)]
 have eP:exP x pc c o A B m=w32 ((pc:Int)+4):=by unfold exP;rw [if_neg (by omega),if_neg (by omega),if_neg (by omega),if_neg (by omega),if_neg (by omega)]
 have eC:exC x pc c o A m=c:=by unfold exC;rw [if_neg (by omega),if_neg (by omega),if_neg (by omega)]
 have eE:exE x o A m= [.int .i64 0,.int .i64 0,.int .i64 0,.int .u32 (0:Nat)]:=by unfold exE;rw [if_neg (by omega),if_neg (by omega),if_neg (by omega),if_neg (by omega),if_neg (by omega)]
 rw [eX,eP,eC,eE]
 have rA:=Qak x pc c A hx hA
 have rB:=Qak x pc c B hx hB
 have rC:=Qak x pc c C hx hC
 have qm:IntKind.u32.wrap m=((w32 m:Nat):Int):=Qav m
 have q4:IntKind.u32.wrap ((pc:Int)+4)=((w32 ((pc:Int)+4):Nat):Int):=Qav _
 have q4m:IntKind.u32.wrap (4*((w32 m:Nat):Int))=((w32 (4*(w32 m:Nat)):Nat):Int):=Qav _
 have xA:=Qad hxr A
 have xB:=Qad hxr B
 have lm:=Qax m
 have hlCC:=Qai (x) (pc) (c) hx hc
 have hsCC:=Qae (x) (pc) (c)
 have hkCC:=Qab (x) (pc) (c)
 have hzCC:=Qac hlCC
 have gpCC:=Qas (x) (pc) (c) hx
 obtain ⟨V,hV⟩:∃ V,c.getD m.toNat 0=V:=⟨_,rfl⟩
 obtain ⟨PP,hPP⟩:∃ PP,w32 ((pc:Int)+4)=PP:=⟨_,rfl⟩
 rw [hV,hPP]
 rw [hPP] at q4
 have hm8:=hm ho
 have rM:=Qct x pc c m.toNat hx hc (by omega)
 rw [hV] at rM
 have hst:=Qc9 x pc c A V hx hc hA
 have hw2:=QaB (QaE x A V) pc c PP (by rw [Qap];exact hx)
 have hlC2:=Qai (QaE x A V) (pc) (c) (by rw [Qap];exact hx) hc
 have hsC2:=Qae (QaE x A V) (pc) (c)
 have hkC2:=Qab (QaE x A V) (pc) (c)
 have hzC2:=Qac hlC2
 have gpC2:=Qas (QaE x A V) (pc) (c) (by rw [Qap];exact hx)
 have hlC3:=Qai (QaE x A V) (PP) (c) (by rw [Qap];exact hx) hc
 have hsC3:=Qae (QaE x A V) (PP) (c)
 have hkC3:=Qab (QaE x A V) (PP) (c)
 have hzC3:=Qac hlC3
 have gpC3:=Qas (QaE x A V) (PP) (c) (by rw [Qap];exact hx)
 generalize Qao (QaE x A V) (PP) (c)=C3 at *
 generalize Qao (QaE x A V) (pc) (c)=C2 at *
 clear eX eP eC eE
 generalize x.getD A 0=vA at *
 generalize x.getD B 0=vB at *
 generalize x.getD C 0=vC at *
 generalize Qao (x) (pc) (c)=CC at *
 generalize w32 (4*((w32 m:Nat):Int))=m4 at *
 generalize w32 m=mm at *
 generalize w32 ((pc:Int)+4)=p4 at *
 refine fnW Tryz.func71 ?_
 (repeat' ((conv=>whnf);first|(intro hb;first|exact zk2 hb|(try (replace hb:=zn0 hb)))|(with_reducible first|refine zv qm ?_|refine zv q4 ?_|refine zv q4m ?_)|(apply Sd.mk; · first|exact ⟨hlCC,hkCC,rfl,(by show 0+CC.length≤25;omega)⟩|exact ⟨hlC3,hkC3,rfl,(by show 0+C3.length≤25;omega)⟩|exact ⟨hlC2,hkC2,rfl,(by show 0+C2.length≤25;omega)⟩|exact ⟨hlCC,hkCC,rfl,(by show 0+CC.length≤C3.length;omega)⟩|exact ⟨hlCC,hkCC,rfl,(by show 0+CC.length≤C2.length;omega)⟩|exact ⟨hlC3,hkC3,rfl,(by show 0+C3.length≤CC.length;omega)⟩|exact ⟨hlC3,hkC3,rfl,(by show 0+C3.length≤C2.length;omega)⟩|exact ⟨hlC2,hkC2,rfl,(by show 0+C2.length≤CC.length;omega)⟩|exact ⟨hlC2,hkC2,rfl,(by show 0+C2.length≤C3.length;omega)⟩|(show (0:Int)≤A∧(A:Int)<16;omega)|(show (0:Int)≤B∧(B:Int)<16;omega)|(show (0:Int)≤m∧m<(8:Int);omega)|(refine ⟨rfl,rfl,rfl,?_⟩;show 0+16+1≤CC.length;omega)|(refine ⟨rfl,rfl,rfl,?_⟩;show 0+16+1≤C3.length;omega)|(refine ⟨rfl,rfl,rfl,?_⟩;show 0+16+1≤C2.length;omega))|((with_reducible apply Vl.mk (α:=List SV)); · first|exact hw2|exact hzCC _ (by first|rfl|assumption)|exact hzC3 _ (by first|rfl|assumption)|exact hzC2 _ (by first|rfl|assumption))|(apply Sg.mk; · first|exact Qaj CC hlCC|exact Qaj C3 hlC3|exact Qaj C2 hlC2)|((with_reducible apply Ge.mk (α:=SV)); · first|exact rA|exact rB|exact rC|exact rM|exact gpCC|exact gpC3|exact gpC2)|(refine zpu hst ?_)|refine zst ?_|refine zbx ?_ ?_|refine zgx ?_ ?_|refine eqR ?_));(all_goals (try (conv=>whnf)))
 all_goals exact zF_
theorem Qtl (x:List Nat) (pc:Nat) (c:List Nat) (o:Int) (A B C:Nat) (m:Int) (hx:x.length=16) (hc:c.length=8) (hxr:∀ y∈x,y<4294967296) (hcr:∀ y∈c,y<4294967296) (hpc:pc<4294967296) (hA:A<16) (hB:B<16) (hC:C<16) (hm:o=58→0≤m∧m<8) (hmr: -32768≤m∧m≤65535) (ho:o=59) :
  Fn Tryz.prog 71 [.agg (Qao x pc c),.agg (iv o A B C m)] [] (· =⟨.tup [.agg (Qao (exX x pc c o A B C m) (exP x pc c o A B m) (exC x pc c o A m)),.agg (exE x o A m)],[],[]⟩):=by
 have eX:exX x pc c o A B C m=x:=by unfold exX;rw [if_neg (by omega),if_neg (by omega),if_neg (by omega),if_neg (by omega),if_neg (by omega)]
 have eP:exP x pc c o A B m=w32 ((pc:Int)+4):=by unfold exP;rw [if_neg (by omega),if_neg (by omega),if_neg (by omega),if_neg (by omega),if_neg (by omega)]
 have eC:exC x pc c o A m=wrL c m (x.getD A 0):=by unfold exC;rw [if_neg (by omega),if_neg (by omega),if_pos (by omega)]
 have eE:exE x o A m= [.int .i64 0,.int .i64 0,.int .i64 0,.int .u32 (0:Nat)]:=by unfold exE;rw [if_neg (by omega),if_neg (by omega),if_neg (by omega),if_neg (by omega),if_neg (by omega)]
 rw [eX,eP,eC,eE]
 have rA:=Qak x pc c A hx hA
 have rB:=Qak x pc c B hx hB
 have rC:=Qak x pc c C hx hC
 have qm:IntKind.u32.wrap m=((w32 m:Nat):Int):=Qav m
 have q4:IntKind.u32.wrap ((pc:Int)+4)=((w32 ((pc:Int)+4):Nat):Int):=Qav _
 have q4m:IntKind.u32.wrap (4*((w32 m:Nat):Int))=((w32 (4*(w32 m:Nat)):Nat):Int):=Qav _
 have xA:=Qad hxr A
 have xB:=Qad hxr B
 have lm:=Qax m
 have hlCC:=Qai (x) (pc) (c) hx hc
 have hsCC:=Qae (x) (pc) (c)
 have hkCC:=Qab (x) (pc) (c)
 have hzCC:=Qac hlCC
 have gpCC:=Qas (x) (pc) (c) hx
 have hst:=Qkj x pc c m (x.getD A 0) hx hc xA
 rw [Qqx] at hst
 have hw2:=QaB x pc (wrL c m (x.getD A 0)) (w32 ((pc:Int)+4)) hx
 have hlC2:=Qai (x) (pc) (wrL c m (x.getD A 0)) hx (by rw [QeJ];exact hc)
 have hsC2:=Qae (x) (pc) (wrL c m (x.getD A 0))
 have hkC2:=Qab (x) (pc) (wrL c m (x.getD A 0))
 have hzC2:=Qac hlC2
 have gpC2:=Qas (x) (pc) (wrL c m (x.getD A 0)) hx
 have hlC3:=Qai (x) (w32 ((pc:Int)+4)) (wrL c m (x.getD A 0)) hx (by rw [QeJ];exact hc)
 have hsC3:=Qae (x) (w32 ((pc:Int)+4)) (wrL c m (x.getD A 0))
 have hkC3:=Qab (x) (w32 ((pc:Int)+4)) (wrL c m (x.getD A 0))
 have hzC3:=Qac hlC3
 have gpC3:=Qas (x) (w32 ((pc:Int)+4)) (wrL c m (x.getD A 0)) hx
 generalize Qao (x) (w32 ((pc:Int)+4)) (wrL c m (x.getD A 0))=C3 at *
 generalize Qao (x) (pc) (wrL c m (x.getD A 0))=C2 at *
 clear eX eP eC eE
 generalize x.getD A 0=vA at *
 generalize x.getD B 0=vB at *
 generalize x.getD C 0=vC at *
 generalize Qao (x) (pc) (c)=CC at *
 generalize w32 (4*((w32 m:Nat):Int))=m4 at *
 generalize w32 m=mm at *
 generalize w32 ((pc:Int)+4)=p4 at *
 refine fnW Tryz.func71 ?_
 (repeat' ((conv=>whnf);first|(intro hb;first|exact zk2 hb|(try (replace hb:=zn0 hb)))|(with_reducible first|refine zv qm ?_|refine zv q4 ?_|refine zv q4m ?_)|(apply Sd.mk; · first|exact ⟨hlCC,hkCC,rfl,(by show 0+CC.length≤25;omega)⟩|exact ⟨hlC3,hkC3,rfl,(by show 0+C3.length≤25;omega)⟩|exact ⟨hlC2,hkC2,rfl,(by show 0+C2.length≤25;omega)⟩|exact ⟨hlCC,hkCC,rfl,(by show 0+CC.length≤C3.length;omega)⟩|exact ⟨hlCC,hkCC,rfl,(by show 0+CC.length≤C2.length;omega)⟩|exact ⟨hlC3,hkC3,rfl,(by show 0+C3.length≤CC.length;omega)⟩|exact ⟨hlC3,hkC3,rfl,(by show 0+C3.length≤C2.length;omega)⟩|exact ⟨hlC2,hkC2,rfl,(by show 0+C2.length≤CC.length;omega)⟩|exact ⟨hlC2,hkC2,rfl,(by show 0+C2.length≤C3.length;omega)⟩|(show (0:Int)≤A∧(A:Int)<16;omega)|(show (0:Int)≤B∧(B:Int)<16;omega)|(refine ⟨rfl,rfl,rfl,?_⟩;show 0+16+1≤CC.length;omega)|(refine ⟨rfl,rfl,rfl,?_⟩;show 0+16+1≤C3.length;omega)|(refine ⟨rfl,rfl,rfl,?_⟩;show 0+16+1≤C2.length;omega))|((with_reducible apply Vl.mk (α:=List SV)); · first|exact hw2|exact hzCC _ (by first|rfl|assumption)|exact hzC3 _ (by first|rfl|assumption)|exact hzC2 _ (by first|rfl|assumption))|(apply Sg.mk; · first|exact Qaj CC hlCC|exact Qaj C3 hlC3|exact Qaj C2 hlC2)|((with_reducible apply Ge.mk (α:=SV)); · first|exact rA|exact rB|exact rC|exact gpCC|exact gpC3|exact gpC2)|(refine zpu hst ?_)|refine zst ?_|refine zbx ?_ ?_|refine zgx ?_ ?_|refine eqR ?_));(all_goals (try (conv=>whnf)))
 all_goals exact zF_
theorem Qx1 (x:List Nat) (pc:Nat) (c:List Nat) (o:Int) (A B C:Nat) (m:Int) (hx:x.length=16) (hc:c.length=8) (hxr:∀ y∈x,y<4294967296) (hcr:∀ y∈c,y<4294967296) (hpc:pc<4294967296) (hA:A<16) (hB:B<16) (hC:C<16) (hm:o=58→0≤m∧m<8) (hmr: -32768≤m∧m≤65535) (ho:o=60) :
  Fn Tryz.prog 71 [.agg (Qao x pc c),.agg (iv o A B C m)] [] (· =⟨.tup [.agg (Qao (exX x pc c o A B C m) (exP x pc c o A B m) (exC x pc c o A m)),.agg (exE x o A m)],[],[]⟩):=by
 have eX:exX x pc c o A B C m=x:=by unfold exX;rw [if_neg (by omega),if_neg (by omega),if_neg (by omega),if_neg (by omega),if_neg (by omega)]
 have eP:exP x pc c o A B m=w32 ((pc:Int)+4):=by unfold exP;rw [if_neg (by omega),if_neg (by omega),if_neg (by omega),if_neg (by omega),if_neg (by omega)]
 have eC:exC x pc c o A m=c:=by unfold exC;rw [if_neg (by omega),if_neg (by omega),if_neg (by omega)]
 have eE:exE x o A m= [.int .i64 1,.int .i64 m,.int .i64 (A:Nat),.int .u32 (0:Nat)]:=by unfold exE;rw [if_pos (by omega)]
 rw [eX,eP,eC,eE]
 have rA:=Qak x pc c A hx hA
 have rB:=Qak x pc c B hx hB
 have rC:=Qak x pc c C hx hC
 have qm:IntKind.u32.wrap m=((w32 m:Nat):Int):=Qav m
 have q4:IntKind.u32.wrap ((pc:Int)+4)=((w32 ((pc:Int)+4):Nat):Int):=Qav _
 have q4m:IntKind.u32.wrap (4*((w32 m:Nat):Int))=((w32 (4*(w32 m:Nat)):Nat):Int):=Qav _
 have xA:=Qad hxr A
 have xB:=Qad hxr B
 have lm:=Qax m
 have hlCC:=Qai (x) (pc) (c) hx hc
 have hsCC:=Qae (x) (pc) (c)
 have hkCC:=Qab (x) (pc) (c)
 have hzCC:=Qac hlCC
 have gpCC:=Qas (x) (pc) (c) hx
 obtain ⟨PP,hPP⟩:∃ PP,w32 ((pc:Int)+4)=PP:=⟨_,rfl⟩
 rw [hPP]
 rw [hPP] at q4
 have hw2:=QaB x pc c PP hx
 have hlC3:=Qai (x) (PP) (c) hx hc
 have hsC3:=Qae (x) (PP) (c)
 have hkC3:=Qab (x) (PP) (c)
 have hzC3:=Qac hlC3
 have gpC3:=Qas (x) (PP) (c) hx
 generalize Qao (x) (PP) (c)=C3 at *
 clear eX eP eC eE
 generalize x.getD A 0=vA at *
 generalize x.getD B 0=vB at *
 generalize x.getD C 0=vC at *
 generalize Qao (x) (pc) (c)=CC at *
 generalize w32 (4*((w32 m:Nat):Int))=m4 at *
 generalize w32 m=mm at *
 generalize w32 ((pc:Int)+4)=p4 at *
 refine fnW Tryz.func71 ?_
 (repeat' ((conv=>whnf);first|(intro hb;first|exact zk2 hb|(try (replace hb:=zn0 hb)))|(with_reducible first|refine zv qm ?_|refine zv q4 ?_|refine zv q4m ?_)|(apply Sd.mk; · first|exact ⟨hlCC,hkCC,rfl,(by show 0+CC.length≤25;omega)⟩|exact ⟨hlC3,hkC3,rfl,(by show 0+C3.length≤25;omega)⟩|exact ⟨hlCC,hkCC,rfl,(by show 0+CC.length≤C3.length;omega)⟩|exact ⟨hlC3,hkC3,rfl,(by show 0+C3.length≤CC.length;omega)⟩|(show (0:Int)≤A∧(A:Int)<16;omega)|(show (0:Int)≤B∧(B:Int)<16;omega)|(refine ⟨rfl,rfl,rfl,?_⟩;show 0+16+1≤CC.length;omega)|(refine ⟨rfl,rfl,rfl,?_⟩;show 0+16+1≤C3.length;omega))|((with_reducible apply Vl.mk (α:=List SV)); · first|exact hw2|exact hzCC _ (by first|rfl|assumption)|exact hzC3 _ (by first|rfl|assumption))|(apply Sg.mk; · first|exact Qaj CC hlCC|exact Qaj C3 hlC3)|((with_reducible apply Ge.mk (α:=SV)); · first|exact rA|exact rB|exact rC|exact gpCC|exact gpC3)|refine zst ?_|refine zbx ?_ ?_|refine zgx ?_ ?_|refine eqR ?_));(all_goals (try (conv=>whnf)))
 all_goals exact zF_
theorem Qwy (x:List Nat) (pc:Nat) (c:List Nat) (o:Int) (A B C:Nat) (m:Int) (hx:x.length=16) (hc:c.length=8) (hxr:∀ y∈x,y<4294967296) (hcr:∀ y∈c,y<4294967296) (hpc:pc<4294967296) (hA:A<16) (hB:B<16) (hC:C<16) (hm:o=58→0≤m∧m<8) (hmr: -32768≤m∧m≤65535) (ho:o=61) :
  Fn Tryz.prog 71 [.agg (Qao x pc c),.agg (iv o A B C m)] [] (· =⟨.tup [.agg (Qao (exX x pc c o A B C m) (exP x pc c o A B m) (exC x pc c o A m)),.agg (exE x o A m)],[],[]⟩):=by
 have eX:exX x pc c o A B C m=x:=by unfold exX;rw [if_neg (by omega),if_neg (by omega),if_neg (by omega),if_neg (by omega),if_neg (by omega)]
 have eP:exP x pc c o A B m=w32 ((pc:Int)+4):=by unfold exP;rw [if_neg (by omega),if_neg (by omega),if_neg (by omega),if_neg (by omega),if_neg (by omega)]
 have eC:exC x pc c o A m=c:=by unfold exC;rw [if_neg (by omega),if_neg (by omega),if_neg (by omega)]
 have eE:exE x o A m= [.int .i64 2,.int .i64 m,.int .i64 0,.int .u32 (x.getD A 0:Nat)]:=by unfold exE;rw [if_neg (by omega),if_pos (by omega)]
 rw [eX,eP,eC,eE]
 have rA:=Qak x pc c A hx hA
 have rB:=Qak x pc c B hx hB
 have rC:=Qak x pc c C hx hC
 have qm:IntKind.u32.wrap m=((w32 m:Nat):Int):=Qav m
 have q4:IntKind.u32.wrap ((pc:Int)+4)=((w32 ((pc:Int)+4):Nat):Int):=Qav _
 have q4m:IntKind.u32.wrap (4*((w32 m:Nat):Int))=((w32 (4*(w32 m:Nat)):Nat):Int):=Qav _
 have xA:=Qad hxr A
 have xB:=Qad hxr B
 have lm:=Qax m
 have hlCC:=Qai (x) (pc) (c) hx hc
 have hsCC:=Qae (x) (pc) (c)
 have hkCC:=Qab (x) (pc) (c)
 have hzCC:=Qac hlCC
 have gpCC:=Qas (x) (pc) (c) hx
 obtain ⟨PP,hPP⟩:∃ PP,w32 ((pc:Int)+4)=PP:=⟨_,rfl⟩
 rw [hPP]
 rw [hPP] at q4
 have hw2:=QaB x pc c PP hx
 have hlC3:=Qai (x) (PP) (c) hx hc
 have hsC3:=Qae (x) (PP) (c)
 have hkC3:=Qab (x) (PP) (c)
 have hzC3:=Qac hlC3
 have gpC3:=Qas (x) (PP) (c) hx
 generalize Qao (x) (PP) (c)=C3 at *
 clear eX eP eC eE
 generalize x.getD A 0=vA at *
 generalize x.getD B 0=vB at *
 generalize x.getD C 0=vC at *
 generalize Qao (x) (pc) (c)=CC at *
 generalize w32 (4*((w32 m:Nat):Int))=m4 at *
 generalize w32 m=mm at *
 generalize w32 ((pc:Int)+4)=p4 at *
 refine fnW Tryz.func71 ?_
 (repeat' ((conv=>whnf);first|(intro hb;first|exact zk2 hb|(try (replace hb:=zn0 hb)))|(with_reducible first|refine zv qm ?_|refine zv q4 ?_|refine zv q4m ?_)|(apply Sd.mk; · first|exact ⟨hlCC,hkCC,rfl,(by show 0+CC.length≤25;omega)⟩|exact ⟨hlC3,hkC3,rfl,(by show 0+C3.length≤25;omega)⟩|exact ⟨hlCC,hkCC,rfl,(by show 0+CC.length≤C3.length;omega)⟩|exact ⟨hlC3,hkC3,rfl,(by show 0+C3.length≤CC.length;omega)⟩|(show (0:Int)≤A∧(A:Int)<16;omega)|(show (0:Int)≤B∧(B:Int)<16;omega)|(refine ⟨rfl,rfl,rfl,?_⟩;show 0+16+1≤CC.length;omega)|(refine ⟨rfl,rfl,rfl,?_⟩;show 0+16+1≤C3.length;omega))|((with_reducible apply Vl.mk (α:=List SV)); · first|exact hw2|exact hzCC _ (by first|rfl|assumption)|exact hzC3 _ (by first|rfl|assumption))|(apply Sg.mk; · first|exact Qaj CC hlCC|exact Qaj C3 hlC3)|((with_reducible apply Ge.mk (α:=SV)); · first|exact rA|exact rB|exact rC|exact gpCC|exact gpC3)|refine zst ?_|refine zbx ?_ ?_|refine zgx ?_ ?_|refine eqR ?_));(all_goals (try (conv=>whnf)))
 all_goals exact zF_
theorem Qwa (x:List Nat) (pc:Nat) (c:List Nat) (o:Int) (A B C:Nat) (m:Int) (hx:x.length=16) (hc:c.length=8) (hxr:∀ y∈x,y<4294967296) (hcr:∀ y∈c,y<4294967296) (hpc:pc<4294967296) (hA:A<16) (hB:B<16) (hC:C<16) (hm:o=58→0≤m∧m<8) (hmr: -32768≤m∧m≤65535) (ho:o=62) :
  Fn Tryz.prog 71 [.agg (Qao x pc c),.agg (iv o A B C m)] [] (· =⟨.tup [.agg (Qao (exX x pc c o A B C m) (exP x pc c o A B m) (exC x pc c o A m)),.agg (exE x o A m)],[],[]⟩):=by
 have eX:exX x pc c o A B C m=x:=by unfold exX;rw [if_neg (by omega),if_neg (by omega),if_neg (by omega),if_neg (by omega),if_neg (by omega)]
 have eP:exP x pc c o A B m=w32 ((pc:Int)+4):=by unfold exP;rw [if_neg (by omega),if_neg (by omega),if_neg (by omega),if_neg (by omega),if_neg (by omega)]
 have eC:exC x pc c o A m=c:=by unfold exC;rw [if_neg (by omega),if_neg (by omega),if_neg (by omega)]
 have eE:exE x o A m= [.int .i64 3,.int .i64 0,.int .i64 0,.int .u32 (0:Nat)]:=by unfold exE;rw [if_neg (by omega),if_neg (by omega),if_pos (by omega)]
 rw [eX,eP,eC,eE]
 have rA:=Qak x pc c A hx hA
 have rB:=Qak x pc c B hx hB
 have rC:=Qak x pc c C hx hC
 have qm:IntKind.u32.wrap m=((w32 m:Nat):Int):=Qav m
 have q4:IntKind.u32.wrap ((pc:Int)+4)=((w32 ((pc:Int)+4):Nat):Int):=Qav _
 have q4m:IntKind.u32.wrap (4*((w32 m:Nat):Int))=((w32 (4*(w32 m:Nat)):Nat):Int):=Qav _
 have xA:=Qad hxr A
 have xB:=Qad hxr B
 have lm:=Qax m
 have hlCC:=Qai (x) (pc) (c) hx hc
 have hsCC:=Qae (x) (pc) (c)
 have hkCC:=Qab (x) (pc) (c)
 have hzCC:=Qac hlCC
 have gpCC:=Qas (x) (pc) (c) hx
 obtain ⟨PP,hPP⟩:∃ PP,w32 ((pc:Int)+4)=PP:=⟨_,rfl⟩
 rw [hPP]
 rw [hPP] at q4
 have hw2:=QaB x pc c PP hx
 have hlC3:=Qai (x) (PP) (c) hx hc
 have hsC3:=Qae (x) (PP) (c)
 have hkC3:=Qab (x) (PP) (c)
 have hzC3:=Qac hlC3
 have gpC3:=Qas (x) (PP) (c) hx
 generalize Qao (x) (PP) (c)=C3 at *
 clear eX eP eC eE
 generalize x.getD A 0=vA at *
 generalize x.getD B 0=vB at *
 generalize x.getD C 0=vC at *
 generalize Qao (x) (pc) (c)=CC at *
 generalize w32 (4*((w32 m:Nat):Int))=m4 at *
 generalize w32 m=mm at *
 generalize w32 ((pc:Int)+4)=p4 at *
 refine fnW Tryz.func71 ?_
 (repeat' ((conv=>whnf);first|(intro hb;first|exact zk2 hb|(try (replace hb:=zn0 hb)))|(with_reducible first|refine zv qm ?_|refine zv q4 ?_|refine zv q4m ?_)|(apply Sd.mk; · first|exact ⟨hlCC,hkCC,rfl,(by show 0+CC.length≤25;omega)⟩|exact ⟨hlC3,hkC3,rfl,(by show 0+C3.length≤25;omega)⟩|exact ⟨hlCC,hkCC,rfl,(by show 0+CC.length≤C3.length;omega)⟩|exact ⟨hlC3,hkC3,rfl,(by show 0+C3.length≤CC.length;omega)⟩|(show (0:Int)≤A∧(A:Int)<16;omega)|(show (0:Int)≤B∧(B:Int)<16;omega)|(refine ⟨rfl,rfl,rfl,?_⟩;show 0+16+1≤CC.length;omega)|(refine ⟨rfl,rfl,rfl,?_⟩;show 0+16+1≤C3.length;omega))|((with_reducible apply Vl.mk (α:=List SV)); · first|exact hw2|exact hzCC _ (by first|rfl|assumption)|exact hzC3 _ (by first|rfl|assumption))|(apply Sg.mk; · first|exact Qaj CC hlCC|exact Qaj C3 hlC3)|((with_reducible apply Ge.mk (α:=SV)); · first|exact rA|exact rB|exact rC|exact gpCC|exact gpC3)|refine zst ?_|refine zbx ?_ ?_|refine zgx ?_ ?_|refine eqR ?_));(all_goals (try (conv=>whnf)))
 all_goals exact zF_
theorem Qpg (x:List Nat) (pc:Nat) (c:List Nat) (o:Int) (A B C:Nat) (m:Int) (hx:x.length=16) (hc:c.length=8) (hxr:∀ y∈x,y<4294967296) (hcr:∀ y∈c,y<4294967296) (hpc:pc<4294967296) (hA:A<16) (hB:B<16) (hC:C<16) (hm:o=58→0≤m∧m<8) (hmr: -32768≤m∧m≤65535) (ho:o=63) :
  Fn Tryz.prog 71 [.agg (Qao x pc c),.agg (iv o A B C m)] [] (· =⟨.tup [.agg (Qao (exX x pc c o A B C m) (exP x pc c o A B m) (exC x pc c o A m)),.agg (exE x o A m)],[],[]⟩):=by
 have eX:exX x pc c o A B C m=x:=by unfold exX;rw [if_neg (by omega),if_neg (by omega),if_neg (by omega),if_neg (by omega),if_neg (by omega)]
 have eP:exP x pc c o A B m=w32 ((pc:Int)+4):=by unfold exP;rw [if_neg (by omega),if_neg (by omega),if_neg (by omega),if_neg (by omega),if_neg (by omega)]
 have eC:exC x pc c o A m=c:=by unfold exC;rw [if_neg (by omega),if_neg (by omega),if_neg (by omega)]
 have eE:exE x o A m= [.int .i64 5,.int .i64 0,.int .i64 0,.int .u32 (0:Nat)]:=by unfold exE;rw [if_neg (by omega),if_neg (by omega),if_neg (by omega),if_pos (by omega)]
 rw [eX,eP,eC,eE]
 have rA:=Qak x pc c A hx hA
 have rB:=Qak x pc c B hx hB
 have rC:=Qak x pc c C hx hC
 have qm:IntKind.u32.wrap m=((w32 m:Nat):Int):=Qav m
 have q4:IntKind.u32.wrap ((pc:Int)+4)=((w32 ((pc:Int)+4):Nat):Int):=Qav _
 have q4m:IntKind.u32.wrap (4*((w32 m:Nat):Int))=((w32 (4*(w32 m:Nat)):Nat):Int):=Qav _
 have xA:=Qad hxr A
 have xB:=Qad hxr B
 have lm:=Qax m
 have hlCC:=Qai (x) (pc) (c) hx hc
 have hsCC:=Qae (x) (pc) (c)
 have hkCC:=Qab (x) (pc) (c)
 have hzCC:=Qac hlCC
 have gpCC:=Qas (x) (pc) (c) hx
 obtain ⟨PP,hPP⟩:∃ PP,w32 ((pc:Int)+4)=PP:=⟨_,rfl⟩
 rw [hPP]
 rw [hPP] at q4
 have hw2:=QaB x pc c PP hx
 have hlC3:=Qai (x) (PP) (c) hx hc
 have hsC3:=Qae (x) (PP) (c)
 have hkC3:=Qab (x) (PP) (c)
 have hzC3:=Qac hlC3
 have gpC3:=Qas (x) (PP) (c) hx
 generalize Qao (x) (PP) (c)=C3 at *
 clear eX eP eC eE
 generalize x.getD A 0=vA at *
 generalize x.getD B 0=vB at *
 generalize x.getD C 0=vC at *
 generalize Qao (x) (pc) (c)=CC at *
 generalize w32 (4*((w32 m:Nat):Int))=m4 at *
 generalize w32 m=mm at *
 generalize w32 ((pc:Int)+4)=p4 at *
 refine fnW Tryz.func71 ?_
 (repeat' ((conv=>whnf);first|(intro hb;first|exact zk2 hb|(try (replace hb:=zn0 hb)))|(with_reducible first|refine zv qm ?_|refine zv q4 ?_|refine zv q4m ?_)|(apply Sd.mk; · first|exact ⟨hlCC,hkCC,rfl,(by show 0+CC.length≤25;omega)⟩|exact ⟨hlC3,hkC3,rfl,(by show 0+C3.length≤25;omega)⟩|exact ⟨hlCC,hkCC,rfl,(by show 0+CC.length≤C3.length;omega)⟩|exact ⟨hlC3,hkC3,rfl,(by show 0+C3.length≤CC.length;omega)⟩|(show (0:Int)≤A∧(A:Int)<16;omega)|(show (0:Int)≤B∧(B:Int)<16;omega)|(refine ⟨rfl,rfl,rfl,?_⟩;show 0+16+1≤CC.length;omega)|(refine ⟨rfl,rfl,rfl,?_⟩;show 0+16+1≤C3.length;omega))|((with_reducible apply Vl.mk (α:=List SV)); · first|exact hw2|exact hzCC _ (by first|rfl|assumption)|exact hzC3 _ (by first|rfl|assumption))|(apply Sg.mk; · first|exact Qaj CC hlCC|exact Qaj C3 hlC3)|((with_reducible apply Ge.mk (α:=SV)); · first|exact rA|exact rB|exact rC|exact gpCC|exact gpC3)|refine zst ?_|refine zbx ?_ ?_|refine zgx ?_ ?_|refine eqR ?_));(all_goals (try (conv=>whnf)))
 all_goals exact zF_
theorem Qr6 (x:List Nat) (pc:Nat) (c:List Nat) (o:Int) (A B C:Nat) (m:Int) (hx:x.length=16) (hc:c.length=8) (hxr:∀ y∈x,y<4294967296) (hcr:∀ y∈c,y<4294967296) (hpc:pc<4294967296) (hA:A<16) (hB:B<16) (hC:C<16) (hm:o=58→0≤m∧m<8) (hmr: -32768≤m∧m≤65535) (ho:o=64) :
  Fn Tryz.prog 71 [.agg (Qao x pc c),.agg (iv o A B C m)] [] (· =⟨.tup [.agg (Qao (exX x pc c o A B C m) (exP x pc c o A B m) (exC x pc c o A m)),.agg (exE x o A m)],[],[]⟩):=by
 have eX:exX x pc c o A B C m=x:=by unfold exX;rw [if_neg (by omega),if_neg (by omega),if_neg (by omega),if_neg (by omega),if_neg (by omega)]
 have eP:exP x pc c o A B m=w32 ((pc:Int)+4):=by unfold exP;rw [if_neg (by omega),if_neg (by omega),if_neg (by omega),if_neg (by omega),if_neg (by omega)]
 have eC:exC x pc c o A m=c:=by unfold exC;rw [if_neg (by omega),if_neg (by omega),if_neg (by omega)]
 have eE:exE x o A m= [.int .i64 4,.int .i64 0,.int .i64 0,.int .u32 (0:Nat)]:=by unfold exE;rw [if_neg (by omega),if_neg (by omega),if_neg (by omega),if_neg (by omega),if_pos (by omega)]
 rw [eX,eP,eC,eE]
 have rA:=Qak x pc c A hx hA
 have rB:=Qak x pc c B hx hB
 have rC:=Qak x pc c C hx hC
 have qm:IntKind.u32.wrap m=((w32 m:Nat):Int):=Qav m
 have q4:IntKind.u32.wrap ((pc:Int)+4)=((w32 ((pc:Int)+4):Nat):Int):=Qav _
 have q4m:IntKind.u32.wrap (4*((w32 m:Nat):Int))=((w32 (4*(w32 m:Nat)):Nat):Int):=Qav _
 have xA:=Qad hxr A
 have xB:=Qad hxr B
 have lm:=Qax m
 have hlCC:=Qai (x) (pc) (c) hx hc
 have hsCC:=Qae (x) (pc) (c)
 have hkCC:=Qab (x) (pc) (c)
 have hzCC:=Qac hlCC
 have gpCC:=Qas (x) (pc) (c) hx
 obtain ⟨PP,hPP⟩:∃ PP,w32 ((pc:Int)+4)=PP:=⟨_,rfl⟩
 rw [hPP]
 rw [hPP] at q4
 have hw2:=QaB x pc c PP hx
 have hlC3:=Qai (x) (PP) (c) hx hc
 have hsC3:=Qae (x) (PP) (c)
 have hkC3:=Qab (x) (PP) (c)
 have hzC3:=Qac hlC3
 have gpC3:=Qas (x) (PP) (c) hx
 generalize Qao (x) (PP) (c)=C3 at *
 clear eX eP eC eE
 generalize x.getD A 0=vA at *
 generalize x.getD B 0=vB at *
 generalize x.getD C 0=vC at *
 generalize Qao (x) (pc) (c)=CC at *
 generalize w32 (4*((w32 m:Nat):Int))=m4 at *
 generalize w32 m=mm at *
 generalize w32 ((pc:Int)+4)=p4 at *
 refine fnW Tryz.func71 ?_
 (repeat' ((conv=>whnf);first|(intro hb;first|exact zk2 hb|(try (replace hb:=zn0 hb)))|(with_reducible first|refine zv qm ?_|refine zv q4 ?_|refine zv q4m ?_)|(apply Sd.mk; · first|exact ⟨hlCC,hkCC,rfl,(by show 0+CC.length≤25;omega)⟩|exact ⟨hlC3,hkC3,rfl,(by show 0+C3.length≤25;omega)⟩|exact ⟨hlCC,hkCC,rfl,(by show 0+CC.length≤C3.length;omega)⟩|exact ⟨hlC3,hkC3,rfl,(by show 0+C3.length≤CC.length;omega)⟩|(show (0:Int)≤A∧(A:Int)<16;omega)|(show (0:Int)≤B∧(B:Int)<16;omega)|(refine ⟨rfl,rfl,rfl,?_⟩;show 0+16+1≤CC.length;omega)|(refine ⟨rfl,rfl,rfl,?_⟩;show 0+16+1≤C3.length;omega))|((with_reducible apply Vl.mk (α:=List SV)); · first|exact hw2|exact hzCC _ (by first|rfl|assumption)|exact hzC3 _ (by first|rfl|assumption))|(apply Sg.mk; · first|exact Qaj CC hlCC|exact Qaj C3 hlC3)|((with_reducible apply Ge.mk (α:=SV)); · first|exact rA|exact rB|exact rC|exact gpCC|exact gpC3)|refine zst ?_|refine zbx ?_ ?_|refine zgx ?_ ?_|refine eqR ?_));(all_goals (try (conv=>whnf)))
 all_goals exact zF_
theorem QoU (x:List Nat) (pc:Nat) (c:List Nat) (o:Int) (A B C:Nat) (m:Int) (hx:x.length=16) (hc:c.length=8) (hxr:∀ y∈x,y<4294967296) (hcr:∀ y∈c,y<4294967296) (hpc:pc<4294967296) (hA:A<16) (hB:B<16) (hC:C<16) (hm:o=58→0≤m∧m<8) (hmr: -32768≤m∧m≤65535) (ho:40≤o∧o≤45∨o=48∨o=49) :
  Fn Tryz.prog 72 [.agg (Qao x pc c),.agg (iv o A B C m)] [] (· =⟨.a (.agg (Qao (exX x pc c o A B C m) (exP x pc c o A B m) (exC x pc c o A m))),[],[]⟩):=by
 rcases ho with h|h|h
 ·cases h3:Qfu o (x.getD A 0) (x.getD B 0) with
  | true=>exact QjT x pc c o A B C m hx hc hxr hcr hpc hA hB hC hm hmr ⟨h,h3⟩
  | false=>exact Qht x pc c o A B C m hx hc hxr hcr hpc hA hB hC hm hmr ⟨h,h3⟩
 ·exact Qu9 x pc c o A B C m hx hc hxr hcr hpc hA hB hC hm hmr h
 ·exact QsN x pc c o A B C m hx hc hxr hcr hpc hA hB hC hm hmr h
theorem Qrz (x:List Nat) (pc:Nat) (c:List Nat) (o:Int) (A B C:Nat) (m:Int) (hx:x.length=16) (hc:c.length=8) (hxr:∀ y∈x,y<4294967296) (hcr:∀ y∈c,y<4294967296) (hpc:pc<4294967296) (hA:A<16) (hB:B<16) (hC:C<16) (hm:o=58→0≤m∧m<8) (hmr: -32768≤m∧m≤65535) (ho:56≤o∧o≤64) :
  Fn Tryz.prog 71 [.agg (Qao x pc c),.agg (iv o A B C m)] [] (· =⟨.tup [.agg (Qao (exX x pc c o A B C m) (exP x pc c o A B m) (exC x pc c o A m)),.agg (exE x o A m)],[],[]⟩):=by
 have e:o=56∨o=57∨o=58∨o=59∨o=60∨o=61∨o=62∨o=63∨o=64:=by omega
 rcases e with h|h|h|h|h|h|h|h|h
 ·exact Qoo x pc c o A B C m hx hc hxr hcr hpc hA hB hC hm hmr h
 ·exact Qsn x pc c o A B C m hx hc hxr hcr hpc hA hB hC hm hmr h
 ·exact QrR x pc c o A B C m hx hc hxr hcr hpc hA hB hC hm hmr h
 ·exact Qtl x pc c o A B C m hx hc hxr hcr hpc hA hB hC hm hmr h
 ·exact Qx1 x pc c o A B C m hx hc hxr hcr hpc hA hB hC hm hmr h
 ·exact Qwy x pc c o A B C m hx hc hxr hcr hpc hA hB hC hm hmr h
 ·exact Qwa x pc c o A B C m hx hc hxr hcr hpc hA hB hC hm hmr h
 ·exact Qpg x pc c o A B C m hx hc hxr hcr hpc hA hB hC hm hmr h
 ·exact Qr6 x pc c o A B C m hx hc hxr hcr hpc hA hB hC hm hmr h
theorem Qnt (x:List Nat) (pc:Nat) (c:List Nat) (xs:List Nat) (n:Nat) (o:Int) (A B C:Nat) (m:Int) (hx:x.length=16) (hc:c.length=8) (hcl:∀ y∈c,y<4294967296) (hpc:pc<4294967296) (hl:xs.length=n) (hxr:∀ y∈xs,y<4294967296) (hn:n<4294967296) (hxx:∀ y∈x,y<4294967296) (hA:A<16) (hB:B<16) (ho:32≤o∧o≤34) :
  Fn Tryz.prog 73 [.agg (Qao x pc c),.s (.sl 0 0 n),.agg (iv o A B C m)] [⟨true,1,wsv xs⟩]
   (· =⟨.a (.agg (Qao (ldX x xs n (c.getD 0 0) (c.getD 6 0) (vaO x B m) o A) (trP pc c (rsK xs n (c.getD 0 0) (c.getD 6 0) (vaO x B m) (wd o) 2)) (trC pc c (rsK xs n (c.getD 0 0) (c.getD 6 0) (vaO x B m) (wd o) 2) (vaO x B m)))),[(0,some ⟨true,1,wsv (rsM xs n (c.getD 0 0) (c.getD 6 0) (vaO x B m) (wd o) 2)⟩)],[]⟩):=by
 have hva:vaO x B m<4294967296:=Qax _
 have hwd:True:=trivial
 have hr:=QcB x pc c xs n (vaO x B m) (wd o) 2 hx hc hcl hl hxr hn hva
 have rA:=Qak x pc c A hx hA
 have rB:=Qak x pc c B hx hB
 have xA:=Qad hxx A
 have qm:IntKind.u32.wrap m=((w32 m:Nat):Int):=Qav m
 have q4:IntKind.u32.wrap ((pc:Int)+4)=((w32 ((pc:Int)+4):Nat):Int):=Qav _
 have qv:IntKind.u32.wrap (((x.getD B 0:Nat):Int)+((w32 m:Nat):Int))=((vaO x B m:Nat):Int):=Qav _
 have hsx:=Qaa xs
 generalize hS:c.getD 0 0=S at *
 generalize hR:c.getD 6 0=R at *
 generalize vaO x B m=va at *
 have hlCC:=Qai (x) (pc) (c) hx hc
 have hsCC:=Qae (x) (pc) (c)
 have hkCC:=Qab (x) (pc) (c)
 have hzCC:=Qac hlCC
 have gpCC:=Qas (x) (pc) (c) hx
 have hsm:=Qaa (rsM xs n S R va (wd o) 2)
 unfold ldX trP trC
 by_cases hK:rsK xs n S R va (wd o) 2=0
 ·have hok:=QeG hK
  obtain ⟨ha,hb1⟩:=QeA hok hva
  have hml:(rsM xs n S R va (wd o) 2).length=n:=by rw [Qa4];exact hl
  have hmr:=Qcl xs n S R va (wd o) 2 hxr
  rw [if_pos hK,if_pos hK,if_pos hK]
  rw [hK] at hr
  generalize rsM xs n S R va (wd o) 2=M at *
  generalize rsA xs n S R va (wd o) 2=AA at *
  obtain ⟨V0,hlo,hV⟩:∃ V0,Fn Tryz.prog 30 [.s (.sl 0 0 n),.s (.int .u32 AA),.s (.int .i64 (wd o))] [⟨false,1,wsv M⟩] (· =⟨.tup [.s (.int .u32 ((V0:Nat):Int)),.s (.bool true)],[],[]⟩)∧V0<4294967296∧ldV o M AA=(if o=33 then sx8 V0 else V0):=by
   by_cases h32:o=32
   ·subst h32
    exact ⟨_,QcM M n AA hn hb1 hml ha,Qad hmr _,rfl⟩
   ·have hw1:wd o=1:=if_neg (by omega)
    rw [hw1] at ha ⊢
    refine ⟨_,Qj3 M n AA hn hb1 hml hmr ha,Nat.lt_trans (QlZ _ _) (by decide),?_⟩
    unfold ldV;rw [if_neg h32]
  have hsx8:=QrQ V0 hV.1
  obtain ⟨V,hVe⟩:∃ V,ldV o M AA=V:=⟨_,rfl⟩
  rw [hVe] at hV ⊢
  have hst:=Qc9 x pc c A V hx hc hA
  have hw2:=QaB (QaE x A V) pc c (w32 ((pc:Int)+4)) (by rw [Qap];exact hx)
  have hlC2:=Qai (QaE x A V) (pc) (c) (by rw [Qap];exact hx) hc
  have hsC2:=Qae (QaE x A V) (pc) (c)
  have hkC2:=Qab (QaE x A V) (pc) (c)
  have hzC2:=Qac hlC2
  have gpC2:=Qas (QaE x A V) (pc) (c) (by rw [Qap];exact hx)
  have hlC3:=Qai (QaE x A V) (w32 ((pc:Int)+4)) (c) (by rw [Qap];exact hx) hc
  have hsC3:=Qae (QaE x A V) (w32 ((pc:Int)+4)) (c)
  have hkC3:=Qab (QaE x A V) (w32 ((pc:Int)+4)) (c)
  have hzC3:=Qac hlC3
  have gpC3:=Qas (QaE x A V) (w32 ((pc:Int)+4)) (c) (by rw [Qap];exact hx)
  clear hVe
  generalize wsv M=XM at *
  generalize wsv xs=XX at *
  generalize x.getD A 0=vA at *
  generalize x.getD B 0=vB at *
  generalize w32 m=mm at *
  generalize Qao (QaE x A V) (w32 ((pc:Int)+4)) (c)=C3 at *
  generalize Qao (QaE x A V) (pc) (c)=C2 at *
  generalize Qao (x) (pc) (c)=CC at *
  generalize w32 ((pc:Int)+4)=p4 at *
  have e:o=32∨o=33∨o=34:=by omega
  have hV0:=hV.1
  rcases e with rfl|rfl|rfl
  all_goals first
   | (
     obtain hq:V=sx8 V0:=hV.2
     rw [← hq] at hsx8
     clear hq hV)
   | (
     obtain rfl:V=V0:=hV.2
     clear hV)
  all_goals
   refine fnW Tryz.func73 ?_
   (repeat' ((conv=>whnf);first|(intro hb;first|exact zk2 hb|(try (replace hb:=zn0 hb)))|(with_reducible first|refine zv qm ?_|refine zv q4 ?_|refine zv qv ?_)|(apply Sd.mk; · first|exact ⟨hlCC,hkCC,rfl,(by show 0+CC.length≤25;omega)⟩|exact ⟨hlC2,hkC2,rfl,(by show 0+C2.length≤25;omega)⟩|exact ⟨hlC3,hkC3,rfl,(by show 0+C3.length≤25;omega)⟩|exact ⟨hlCC,hkCC,rfl,(by show 0+CC.length≤C2.length;omega)⟩|exact ⟨hlCC,hkCC,rfl,(by show 0+CC.length≤C3.length;omega)⟩|exact ⟨hlC2,hkC2,rfl,(by show 0+C2.length≤CC.length;omega)⟩|exact ⟨hlC2,hkC2,rfl,(by show 0+C2.length≤C3.length;omega)⟩|exact ⟨hlC3,hkC3,rfl,(by show 0+C3.length≤CC.length;omega)⟩|exact ⟨hlC3,hkC3,rfl,(by show 0+C3.length≤C2.length;omega)⟩|(show (0:Int)≤A∧(A:Int)<16;omega)|(show (0:Int)≤B∧(B:Int)<16;omega)|(refine ⟨rfl,rfl,rfl,?_⟩;show 0+16+1≤CC.length;omega)|(refine ⟨rfl,rfl,rfl,?_⟩;show 0+16+1≤C2.length;omega)|(refine ⟨rfl,rfl,rfl,?_⟩;show 0+16+1≤C3.length;omega))|((with_reducible apply Vl.mk (α:=List SV)); · first|exact hw2|exact hzCC _ (by first|rfl|assumption)|exact hzC2 _ (by first|rfl|assumption)|exact hzC3 _ (by first|rfl|assumption))|(apply Sg.mk; · first|exact Qaj CC hlCC|exact Qaj C2 hlC2|exact Qaj C3 hlC3)|((with_reducible apply Ge.mk (α:=SV)); · first|exact rA|exact rB|exact gpCC|exact gpC2|exact gpC3)|(refine QbY hr ?_)|(refine Qay hlo ?_)|(refine zpu hsx8 ?_)|(refine zpu hst ?_)|refine zst ?_|refine zbx ?_ ?_|refine zgx ?_ ?_|refine eqR ?_));(all_goals (try (conv=>whnf)))
   all_goals exact Qdz
 ·have htr:=QbX x pc c (rsK xs n S R va (wd o) 2) va hx hc hcl
  rw [Qbh] at htr
  rw [if_neg hK,if_neg hK,if_neg hK]
  have hlC3:=Qai (x) (c.getD 1 0) (trL pc c (rsK xs n S R va (wd o) 2) va) hx rfl
  have hsC3:=Qae (x) (c.getD 1 0) (trL pc c (rsK xs n S R va (wd o) 2) va)
  have hkC3:=Qab (x) (c.getD 1 0) (trL pc c (rsK xs n S R va (wd o) 2) va)
  have hzC3:=Qac hlC3
  have gpC3:=Qas (x) (c.getD 1 0) (trL pc c (rsK xs n S R va (wd o) 2) va) hx
  generalize wsv (rsM xs n S R va (wd o) 2)=XM at *
  generalize rsA xs n S R va (wd o) 2=AA at *
  generalize wsv xs=XX at *
  generalize x.getD A 0=vA at *
  generalize x.getD B 0=vB at *
  generalize w32 m=mm at *
  generalize Qao (x) (c.getD 1 0) (trL pc c (rsK xs n S R va (wd o) 2) va)=C3 at *
  generalize Qao (x) (pc) (c)=CC at *
  generalize rsK xs n S R va (wd o) 2=K at *
  have e:o=32∨o=33∨o=34:=by omega
  rcases e with rfl|rfl|rfl
  all_goals
   refine fnW Tryz.func73 ?_
   (repeat' ((conv=>whnf);first|(intro hb;first|exact zk2 hb|(try (replace hb:=zn0 hb)))|(with_reducible first|refine zv qm ?_|refine zv q4 ?_|refine zv qv ?_)|(apply Sd.mk; · first|exact ⟨hlCC,hkCC,rfl,(by show 0+CC.length≤25;omega)⟩|exact ⟨hlC3,hkC3,rfl,(by show 0+C3.length≤25;omega)⟩|exact ⟨hlCC,hkCC,rfl,(by show 0+CC.length≤C3.length;omega)⟩|exact ⟨hlC3,hkC3,rfl,(by show 0+C3.length≤CC.length;omega)⟩|(show (0:Int)≤A∧(A:Int)<16;omega)|(show (0:Int)≤B∧(B:Int)<16;omega)|(refine ⟨rfl,rfl,rfl,?_⟩;show 0+16+1≤CC.length;omega)|(refine ⟨rfl,rfl,rfl,?_⟩;show 0+16+1≤C3.length;omega))|((with_reducible apply Vl.mk (α:=List SV)); · first|exact hzCC _ (by first|rfl|assumption)|exact hzC3 _ (by first|rfl|assumption))|(apply Sg.mk; · first|exact Qaj CC hlCC|exact Qaj C3 hlC3)|((with_reducible apply Ge.mk (α:=SV)); · first|exact rA|exact rB|exact gpCC|exact gpC3)|(refine QbY hr ?_)|(refine zpu htr ?_)|refine zst ?_|refine zbx ?_ ?_|refine zgx ?_ ?_|refine eqR ?_));(all_goals (try (conv=>whnf)))
   all_goals exact Qdz
theorem QmC (x:List Nat) (pc:Nat) (c:List Nat) (xs:List Nat) (n:Nat) (o:Int) (A B C:Nat) (m:Int) (hx:x.length=16) (hc:c.length=8) (hcl:∀ y∈c,y<4294967296) (hpc:pc<4294967296) (hl:xs.length=n) (hxr:∀ y∈xs,y<4294967296) (hn:n<4294967296) (hxx:∀ y∈x,y<4294967296) (hA:A<16) (hB:B<16) (ho:35≤o∧o≤36) :
  Fn Tryz.prog 73 [.agg (Qao x pc c),.s (.sl 0 0 n),.agg (iv o A B C m)] [⟨true,1,wsv xs⟩]
   (· =⟨.a (.agg (Qao x (trP pc c (rsK xs n (c.getD 0 0) (c.getD 6 0) (vaO x B m) (wd o) 3)) (trC pc c (rsK xs n (c.getD 0 0) (c.getD 6 0) (vaO x B m) (wd o) 3) (vaO x B m)))),[(0,some ⟨true,1,wsv (stX xs n (c.getD 0 0) (c.getD 6 0) (vaO x B m) (x.getD A 0) o)⟩)],[]⟩):=by
 have hva:vaO x B m<4294967296:=Qax _
 have hwd:True:=trivial
 have hr:=QcB x pc c xs n (vaO x B m) (wd o) 3 hx hc hcl hl hxr hn hva
 have rA:=Qak x pc c A hx hA
 have rB:=Qak x pc c B hx hB
 have xA:=Qad hxx A
 have qm:IntKind.u32.wrap m=((w32 m:Nat):Int):=Qav m
 have q4:IntKind.u32.wrap ((pc:Int)+4)=((w32 ((pc:Int)+4):Nat):Int):=Qav _
 have qv:IntKind.u32.wrap (((x.getD B 0:Nat):Int)+((w32 m:Nat):Int))=((vaO x B m:Nat):Int):=Qav _
 have hsx:=Qaa xs
 generalize hS:c.getD 0 0=S at *
 generalize hR:c.getD 6 0=R at *
 generalize vaO x B m=va at *
 have hlCC:=Qai (x) (pc) (c) hx hc
 have hsCC:=Qae (x) (pc) (c)
 have hkCC:=Qab (x) (pc) (c)
 have hzCC:=Qac hlCC
 have gpCC:=Qas (x) (pc) (c) hx
 have hsm:=Qaa (rsM xs n S R va (wd o) 3)
 unfold stX trP trC
 by_cases hK:rsK xs n S R va (wd o) 3=0
 ·have hok:=QeG hK
  obtain ⟨ha,hb1⟩:=QeA hok hva
  have hml:(rsM xs n S R va (wd o) 3).length=n:=by rw [Qa4];exact hl
  have hmr:=Qcl xs n S R va (wd o) 3 hxr
  rw [if_pos hK,if_pos hK,if_pos hK]
  rw [hK] at hr
  generalize rsM xs n S R va (wd o) 3=M at *
  generalize rsA xs n S R va (wd o) 3=AA at *
  have hlo:Fn Tryz.prog 94 [.s (.sl 0 0 n),.s (.int .u32 AA),.s (.int .i64 (wd o)),.s (.int .u32 (x.getD A 0:Nat))] [⟨true,1,wsv M⟩] (· =⟨.tup [],[(0,some ⟨true,1,wsv (stM o M AA (x.getD A 0))⟩)],[]⟩):=by
   by_cases h35:o=35
   ·subst h35
    exact Qog M n AA (x.getD A 0) hb1 hml ha
   ·have hw1:wd o=1:=if_neg (by omega)
    rw [hw1] at ha ⊢
    unfold stM;rw [if_neg h35]
    exact Qi4 M n AA (x.getD A 0) hb1 hml ha
  have hss:=Qaa (stM o M AA (x.getD A 0))
  have hw2:=QaB x pc c (w32 ((pc:Int)+4)) hx
  have hlC3:=Qai (x) (w32 ((pc:Int)+4)) (c) hx hc
  have hsC3:=Qae (x) (w32 ((pc:Int)+4)) (c)
  have hkC3:=Qab (x) (w32 ((pc:Int)+4)) (c)
  have hzC3:=Qac hlC3
  have gpC3:=Qas (x) (w32 ((pc:Int)+4)) (c) hx
  generalize wsv (stM o M AA (x.getD A 0))=XS at *
  generalize wsv M=XM at *
  generalize wsv xs=XX at *
  generalize x.getD A 0=vA at *
  generalize x.getD B 0=vB at *
  generalize w32 m=mm at *
  generalize Qao (x) (w32 ((pc:Int)+4)) (c)=C3 at *
  generalize Qao (x) (pc) (c)=CC at *
  generalize w32 ((pc:Int)+4)=p4 at *
  have e:o=35∨o=36:=by omega
  rcases e with rfl|rfl
  all_goals
   refine fnW Tryz.func73 ?_
   (repeat' ((conv=>whnf);first|(intro hb;first|exact zk2 hb|(try (replace hb:=zn0 hb)))|(with_reducible first|refine zv qm ?_|refine zv q4 ?_|refine zv qv ?_)|(apply Sd.mk; · first|exact ⟨hlCC,hkCC,rfl,(by show 0+CC.length≤25;omega)⟩|exact ⟨hlC3,hkC3,rfl,(by show 0+C3.length≤25;omega)⟩|exact ⟨hlCC,hkCC,rfl,(by show 0+CC.length≤C3.length;omega)⟩|exact ⟨hlC3,hkC3,rfl,(by show 0+C3.length≤CC.length;omega)⟩|(show (0:Int)≤A∧(A:Int)<16;omega)|(show (0:Int)≤B∧(B:Int)<16;omega)|(refine ⟨rfl,rfl,rfl,?_⟩;show 0+16+1≤CC.length;omega)|(refine ⟨rfl,rfl,rfl,?_⟩;show 0+16+1≤C3.length;omega))|((with_reducible apply Vl.mk (α:=List SV)); · first|exact hw2|exact hzCC _ (by first|rfl|assumption)|exact hzC3 _ (by first|rfl|assumption))|(apply Sg.mk; · first|exact Qaj CC hlCC|exact Qaj C3 hlC3)|((with_reducible apply Ge.mk (α:=SV)); · first|exact rA|exact rB|exact gpCC|exact gpC3)|(refine QbY hr ?_)|(refine QbY hlo ?_)|refine zst ?_|refine zbx ?_ ?_|refine zgx ?_ ?_|refine eqR ?_));(all_goals (try (conv=>whnf)))
   all_goals exact Qdz
 ·have htr:=QbX x pc c (rsK xs n S R va (wd o) 3) va hx hc hcl
  rw [Qbh] at htr
  rw [if_neg hK,if_neg hK,if_neg hK]
  have hlC3:=Qai (x) (c.getD 1 0) (trL pc c (rsK xs n S R va (wd o) 3) va) hx rfl
  have hsC3:=Qae (x) (c.getD 1 0) (trL pc c (rsK xs n S R va (wd o) 3) va)
  have hkC3:=Qab (x) (c.getD 1 0) (trL pc c (rsK xs n S R va (wd o) 3) va)
  have hzC3:=Qac hlC3
  have gpC3:=Qas (x) (c.getD 1 0) (trL pc c (rsK xs n S R va (wd o) 3) va) hx
  generalize wsv (rsM xs n S R va (wd o) 3)=XM at *
  generalize rsA xs n S R va (wd o) 3=AA at *
  generalize wsv xs=XX at *
  generalize x.getD A 0=vA at *
  generalize x.getD B 0=vB at *
  generalize w32 m=mm at *
  generalize Qao (x) (c.getD 1 0) (trL pc c (rsK xs n S R va (wd o) 3) va)=C3 at *
  generalize Qao (x) (pc) (c)=CC at *
  generalize rsK xs n S R va (wd o) 3=K at *
  have e:o=35∨o=36:=by omega
  rcases e with rfl|rfl
  all_goals
   refine fnW Tryz.func73 ?_
   (repeat' ((conv=>whnf);first|(intro hb;first|exact zk2 hb|(try (replace hb:=zn0 hb)))|(with_reducible first|refine zv qm ?_|refine zv q4 ?_|refine zv qv ?_)|(apply Sd.mk; · first|exact ⟨hlCC,hkCC,rfl,(by show 0+CC.length≤25;omega)⟩|exact ⟨hlC3,hkC3,rfl,(by show 0+C3.length≤25;omega)⟩|exact ⟨hlCC,hkCC,rfl,(by show 0+CC.length≤C3.length;omega)⟩|exact ⟨hlC3,hkC3,rfl,(by show 0+C3.length≤CC.length;omega)⟩|(show (0:Int)≤A∧(A:Int)<16;omega)|(show (0:Int)≤B∧(B:Int)<16;omega)|(refine ⟨rfl,rfl,rfl,?_⟩;show 0+16+1≤CC.length;omega)|(refine ⟨rfl,rfl,rfl,?_⟩;show 0+16+1≤C3.length;omega))|((with_reducible apply Vl.mk (α:=List SV)); · first|exact hzCC _ (by first|rfl|assumption)|exact hzC3 _ (by first|rfl|assumption))|(apply Sg.mk; · first|exact Qaj CC hlCC|exact Qaj C3 hlC3)|((with_reducible apply Ge.mk (α:=SV)); · first|exact rA|exact rB|exact gpCC|exact gpC3)|(refine QbY hr ?_)|(refine zpu htr ?_)|refine zst ?_|refine zbx ?_ ?_|refine zgx ?_ ?_|refine eqR ?_));(all_goals (try (conv=>whnf)))
   all_goals exact Qdz
end Go.Proofs.YtjgikeckbeeehaaGreat
