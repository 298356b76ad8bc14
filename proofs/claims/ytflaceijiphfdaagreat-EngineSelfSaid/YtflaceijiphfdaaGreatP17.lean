import Derived.Test.YtflaceijiphfdaaGreatP15
set_option linter.unusedSimpArgs false
set_option linter.unusedVariables false
set_option maxHeartbeats 0
set_option maxRecDepth 100000
namespace Go.Proofs.YtflaceijiphfdaaGreat
open Go Go.RowKit
theorem Qmt (o:Int) (a b:Nat) (ha:ZU a) (fM:ZU b):FN 229 [.s (.i o),.s (.u a),.s (.u b)] [] (. =⟨.a (.s (.bool (Qc7 o a b))),[],[]⟩):=by
 refine fnW Tryz.func229 ?_;exact Qzu
theorem Qah {l:List SV} (h:l.length=25):∀ c:List SV,c.length=25->QaB c 0 l=l:=fun c hc=>Qcb (hc.trans h.symm)
theorem Qhy (x:List Nat) (pc:Nat) (c:List Nat) (r v:Nat) (hx:x.length=16) (hc:c.length=8) (hr:r<16):FN 227 [.agg (Qax x pc c),.s (.i r),.s (.u v)] [] (. =⟨.a (.agg (Qax (QaC x r v) pc c)),[],[]⟩):=by
 have hl:=Qao x pc c hx hc;have hs:=Qal x pc c;have hk:=Qag x pc c;have wi:=QCO r;have hw:=QhT x pc c r v hx hr;have jI:=Qao (x.set r v) pc c (by simpa using hx) hc;have gW:=Qal (x.set r v) pc c;have wI:=Qah hl;have hz2:=Qah jI;have qZ:=Qag (x.set r v) pc c;unfold QaC
 by_cases h:r=0
 .rw [zP h]
  subst h;generalize Qax x pc c=C at *;refine fnW Tryz.func227 ?_;(repeat' ((conv=>whnf);first|exact zi2|refine zj0 fun hb=>?_|(apply Sd.mk; . exact ⟨hl,hk,rfl,(by show 0+C.length<=25;omega)⟩)|((with_reducible apply Vl.mk (α:=List SV)); . exact wI _ rfl)|(apply Sg.mk; . exact Qa4 C hl)|refine zse ?_|refine zbb ?_ ?_))
  all_goals exact zf_
 .rw [zN h]
  generalize Qax (x.set r v) pc c=C2,Qax x pc c=C at *;refine fnW Tryz.func227 ?_;(repeat' ((conv=>whnf);first|exact zi2|refine zj0 fun hb=>?_|(apply Sd.mk; . first|exact ⟨jI,qZ,rfl,(by show 0+C2.length<=25;omega)⟩|(show (0:Int)<=r/\(r:Int)<16;omega)|(refine ⟨rfl,rfl,rfl,?_⟩;show r+1<=C.length;omega))|((with_reducible apply Vl.mk (α:=List SV)); . first|with_reducible exact hw|exact hz2 _ rfl)|(apply Sg.mk; . exact Qa4 C2 jI)|refine zse ?_|refine zbb ?_ ?_))
  all_goals exact zf_
theorem Qs3 (x:List Nat) (pc:Nat) (c:List Nat) (o:Int) (A B C:Nat) (m:Int) (hx:x.length=16) (hc:c.length=8) (hY:ZL x) (gA:ZL c) (gQ:ZU pc) (hA:A<16) (hB:B<16) (hC:C<16) (hm:o=58->0<=m/\m<8) (gB: -32768<=m/\m<=65535) (ho:1<=o/\o<=13) :
  FN 189 [.agg (Qax x pc c),.agg (iv o A B C m)] [] (. =⟨.tup [.agg (Qax (exX x pc c o A B C m) (exP x pc c o A B m) (exC x pc c o A m)),.agg (exE x o A m)],[],[]⟩):=by
 have eX:exX x pc c o A B C m=QaC x A (Qbr o (x.getD B 0) (x.getD C 0)):=by unfold exX;rw [zP (by omega)]
 have eP:exP x pc c o A B m=w32 ((pc:Int)+4):=QiB;have eC:exC x pc c o A m=c:=Qf5;have eE:exE x o A m= [.i 0,.i 0,.i 0,.u (0:Nat)]:=Qkc;rw [eX,eP,eC,eE];have rA:=Qav x pc c A hx hA;have rB:=Qav x pc c B hx hB;have rC:=Qav x pc c C hx hC;have gp:=QaA x pc c hx;have qm:IntKind.u32.wrap m=((w32 m:Nat):Int):=Qau m;have q4:IntKind.u32.wrap ((pc:Int)+4)=((w32 ((pc:Int)+4):Nat):Int):=Qau _;have xA:=Qab hY A;have xB:=Qab hY B;have xC:=Qab hY C;have lm:=QaE m;have hl:=Qao x pc c hx hc;have hs:=Qal x pc c;have hk:=Qag x pc c;have wI:=Qah hl;obtain ⟨V,hV⟩:∃ V,Qbr o (x.getD B 0) (x.getD C 0)=V:=⟨_,rfl⟩;obtain ⟨PP,qQ⟩:∃ PP,w32 ((pc:Int)+4)=PP:=⟨_,rfl⟩;rw [hV,qQ];rw [qQ] at q4;have gZ:=Qc9 o (x.getD B 0) (x.getD C 0) xB (by first|exact xC|exact lm);rw [<- Qbf o (x.getD B 0) (x.getD C 0) xB (by first|exact xC|exact lm),hV] at gZ;exact QHE
theorem Qs4 (x:List Nat) (pc:Nat) (c:List Nat) (o:Int) (A B C:Nat) (m:Int) (hx:x.length=16) (hc:c.length=8) (hY:ZL x) (gA:ZL c) (gQ:ZU pc) (hA:A<16) (hB:B<16) (hC:C<16) (hm:o=58->0<=m/\m<8) (gB: -32768<=m/\m<=65535) (ho:16<=o/\o<=23) :
  FN 189 [.agg (Qax x pc c),.agg (iv o A B C m)] [] (. =⟨.tup [.agg (Qax (exX x pc c o A B C m) (exP x pc c o A B m) (exC x pc c o A m)),.agg (exE x o A m)],[],[]⟩):=by
 have eX:exX x pc c o A B C m=QaC x A (Qbr o (x.getD B 0) (w32 m)):=by unfold exX;rw [zN (by omega),zP (by omega)]
 have eP:exP x pc c o A B m=w32 ((pc:Int)+4):=QiB;have eC:exC x pc c o A m=c:=Qf5;have eE:exE x o A m= [.i 0,.i 0,.i 0,.u (0:Nat)]:=Qkc;rw [eX,eP,eC,eE];have rA:=Qav x pc c A hx hA;have rB:=Qav x pc c B hx hB;have rC:=Qav x pc c C hx hC;have gp:=QaA x pc c hx;have qm:IntKind.u32.wrap m=((w32 m:Nat):Int):=Qau m;have q4:IntKind.u32.wrap ((pc:Int)+4)=((w32 ((pc:Int)+4):Nat):Int):=Qau _;have xA:=Qab hY A;have xB:=Qab hY B;have xC:=Qab hY C;have lm:=QaE m;have hl:=Qao x pc c hx hc;have hs:=Qal x pc c;have hk:=Qag x pc c;have wI:=Qah hl;obtain ⟨V,hV⟩:∃ V,Qbr o (x.getD B 0) (w32 m)=V:=⟨_,rfl⟩;obtain ⟨PP,qQ⟩:∃ PP,w32 ((pc:Int)+4)=PP:=⟨_,rfl⟩;rw [hV,qQ];rw [qQ] at q4;have gZ:=Qc9 o (x.getD B 0) (w32 m) xB (by first|exact xC|exact lm);rw [<- Qbf o (x.getD B 0) (w32 m) xB (by first|exact xC|exact lm),hV] at gZ;exact QHE
theorem QwX (x:List Nat) (pc:Nat) (c:List Nat) (o:Int) (A B C:Nat) (m:Int) (hx:x.length=16) (hc:c.length=8) (hY:ZL x) (gA:ZL c) (gQ:ZU pc) (hA:A<16) (hB:B<16) (hC:C<16) (hm:o=58->0<=m/\m<8) (gB: -32768<=m/\m<=65535) (ho:o=24) :
  FN 189 [.agg (Qax x pc c),.agg (iv o A B C m)] [] (. =⟨.tup [.agg (Qax (exX x pc c o A B C m) (exP x pc c o A B m) (exC x pc c o A m)),.agg (exE x o A m)],[],[]⟩):=by
 have eX:exX x pc c o A B C m=QaC x A (w32 ((w32 m:Nat)*65536)):=by unfold exX;rw [zN (by omega),zN (by omega),zP (by omega)]
 have eP:exP x pc c o A B m=w32 ((pc:Int)+4):=QiB;have eC:exC x pc c o A m=c:=Qf5;have eE:exE x o A m= [.i 0,.i 0,.i 0,.u (0:Nat)]:=Qkc;rw [eX,eP,eC,eE];have rA:=Qav x pc c A hx hA;have rB:=Qav x pc c B hx hB;have rC:=Qav x pc c C hx hC;have gp:=QaA x pc c hx;have qm:IntKind.u32.wrap m=((w32 m:Nat):Int):=Qau m;have q4:IntKind.u32.wrap ((pc:Int)+4)=((w32 ((pc:Int)+4):Nat):Int):=Qau _;have xA:=Qab hY A;have xB:=Qab hY B;have xC:=Qab hY C;have lm:=QaE m;have hl:=Qao x pc c hx hc;have hs:=Qal x pc c;have hk:=Qag x pc c;have wI:=Qah hl;obtain ⟨V,hV⟩:∃ V,w32 ((w32 m:Nat)*65536)=V:=⟨_,rfl⟩;obtain ⟨PP,qQ⟩:∃ PP,w32 ((pc:Int)+4)=PP:=⟨_,rfl⟩;rw [hV,qQ];rw [qQ] at q4;have q16:IntKind.u32.wrap (((w32 m:Nat):Int)*2^min (Int.toNat 16) IntKind.u32.bits)=(V:Int):=by rw [show (2:Int)^min (Int.toNat 16) IntKind.u32.bits=65536 from rfl,Qau,hV]
 have gN:=Qhy x pc c A V hx hc hA;have jI:=Qao (QaC x A V) pc c (by rw [Qay];exact hx) hc;have gW:=Qal (QaC x A V) pc c;have qZ:=Qag (QaC x A V) pc c;have wF:QaB (Qax x pc c) 0 (Qax (QaC x A V) pc c)=Qax (QaC x A V) pc c:=Qcb (by omega);have qW:=QaN (QaC x A V) pc c PP (by rw [Qay];exact hx);have jE:=Qao (QaC x A V) PP c (by rw [Qay];exact hx) hc;have fG:=Qal (QaC x A V) PP c;have wV:=Qag (QaC x A V) PP c;have yS:=Qah jE;have gp2:=QaA (QaC x A V) pc c (by rw [Qay];exact hx);generalize Qax (QaC x A V) PP c=C3,Qax (QaC x A V) pc c=C2 at *;clear eX eP eC eE hY gA hm;generalize x.getD A 0=vA,x.getD B 0=vB,x.getD C 0=vC at *;skip;generalize Qax x pc c=CC,w32 m=mm,w32 ((pc:Int)+4)=p4 at *;refine fnW Tryz.func189 ?_;(repeat' ((conv=>whnf);first|exact zi2|refine zj0 fun hb=>?_|refine QCX ?_|(with_reducible first|refine zv qm ?_|refine zv q4 ?_|refine zv q16 ?_)|refine QCW ?_|refine Qzo ?_|refine zq5 ?_|(refine zpu gN ?_)|refine zse ?_|refine zbb ?_ ?_))
 all_goals exact zF_
theorem QwW (x:List Nat) (pc:Nat) (c:List Nat) (o:Int) (A B C:Nat) (m:Int) (hx:x.length=16) (hc:c.length=8) (hY:ZL x) (gA:ZL c) (gQ:ZU pc) (hA:A<16) (hB:B<16) (hC:C<16) (hm:o=58->0<=m/\m<8) (gB: -32768<=m/\m<=65535) (ho:o=48) :
  FN 189 [.agg (Qax x pc c),.agg (iv o A B C m)] [] (. =⟨.tup [.agg (Qax (exX x pc c o A B C m) (exP x pc c o A B m) (exC x pc c o A m)),.agg (exE x o A m)],[],[]⟩):=by
 have eX:exX x pc c o A B C m=QaC x A (w32 ((pc:Int)+4)):=QuE;have eP:exP x pc c o A B m=w32 ((pc:Int)+w32 (4*(w32 m:Nat))):=by unfold exP;rw [zN (by omega),zP (by omega)]
 have eC:exC x pc c o A m=c:=Qf5;have eE:exE x o A m= [.i 0,.i 0,.i 0,.u (0:Nat)]:=Qkc;rw [eX,eP,eC,eE];have rA:=Qav x pc c A hx hA;have rB:=Qav x pc c B hx hB;have rC:=Qav x pc c C hx hC;have gp:=QaA x pc c hx;have qm:IntKind.u32.wrap m=((w32 m:Nat):Int):=Qau m;have q4:IntKind.u32.wrap ((pc:Int)+4)=((w32 ((pc:Int)+4):Nat):Int):=Qau _;have xA:=Qab hY A;have xB:=Qab hY B;have xC:=Qab hY C;have lm:=QaE m;have hl:=Qao x pc c hx hc;have hs:=Qal x pc c;have hk:=Qag x pc c;have wI:=Qah hl;obtain ⟨V,hV⟩:∃ V,w32 ((pc:Int)+4)=V:=⟨_,rfl⟩;obtain ⟨PP,qQ⟩:∃ PP,w32 ((pc:Int)+w32 (4*(w32 m:Nat)))=PP:=⟨_,rfl⟩;rw [hV,qQ];rw [hV] at q4;have q4m:IntKind.u32.wrap (4*((w32 m:Nat):Int))=((w32 (4*(w32 m:Nat)):Nat):Int):=Qau _;have qT:IntKind.u32.wrap ((pc:Int)+((w32 (4*(w32 m:Nat)):Nat):Int))=(PP:Int):=by rw [Qau,qQ]
 have gN:=Qhy x pc c A V hx hc hA;have jI:=Qao (QaC x A V) pc c (by rw [Qay];exact hx) hc;have gW:=Qal (QaC x A V) pc c;have qZ:=Qag (QaC x A V) pc c;have wF:QaB (Qax x pc c) 0 (Qax (QaC x A V) pc c)=Qax (QaC x A V) pc c:=Qcb (by omega);have qW:=QaN (QaC x A V) pc c PP (by rw [Qay];exact hx);have jE:=Qao (QaC x A V) PP c (by rw [Qay];exact hx) hc;have fG:=Qal (QaC x A V) PP c;have wV:=Qag (QaC x A V) PP c;have yS:=Qah jE;have gp2:=QaA (QaC x A V) pc c (by rw [Qay];exact hx);generalize Qax (QaC x A V) PP c=C3,Qax (QaC x A V) pc c=C2 at *;clear eX eP eC eE hY gA hm;generalize x.getD A 0=vA,x.getD B 0=vB,x.getD C 0=vC,w32 (4*((w32 m:Nat):Int))=m4,Qax x pc c=CC at *;generalize w32 m=mm,w32 ((pc:Int)+4)=p4 at *;refine fnW Tryz.func189 ?_;(repeat' ((conv=>whnf);first|exact zi2|refine zj0 fun hb=>?_|((with_reducible apply Ge.mk (α:=SV)); . first|exact rA|exact rB|exact gp|exact gp2)|refine QEK ?_|refine QCW ?_|refine Qzo ?_|refine zq5 ?_|(refine zpu gN ?_)|refine zse ?_|refine zbb ?_ ?_))
 all_goals exact zF_
theorem Qs9 (x:List Nat) (pc:Nat) (c:List Nat) (o:Int) (A B C:Nat) (m:Int) (hx:x.length=16) (hc:c.length=8) (hY:ZL x) (gA:ZL c) (gQ:ZU pc) (hA:A<16) (hB:B<16) (hC:C<16) (hm:o=58->0<=m/\m<8) (gB: -32768<=m/\m<=65535) (ho:o=49) :
  FN 189 [.agg (Qax x pc c),.agg (iv o A B C m)] [] (. =⟨.tup [.agg (Qax (exX x pc c o A B C m) (exP x pc c o A B m) (exC x pc c o A m)),.agg (exE x o A m)],[],[]⟩):=by
 have eX:exX x pc c o A B C m=QaC x A (w32 ((pc:Int)+4)):=QuE;have eP:exP x pc c o A B m=w32 ((x.getD B 0:Nat)+(w32 m:Nat)):=by unfold exP;rw [zN (by omega),zN (by omega),zP (by omega)]
 have eC:exC x pc c o A m=c:=Qf5;have eE:exE x o A m= [.i 0,.i 0,.i 0,.u (0:Nat)]:=Qkc;rw [eX,eP,eC,eE];have rA:=Qav x pc c A hx hA;have rB:=Qav x pc c B hx hB;have rC:=Qav x pc c C hx hC;have gp:=QaA x pc c hx;have qm:IntKind.u32.wrap m=((w32 m:Nat):Int):=Qau m;have q4:IntKind.u32.wrap ((pc:Int)+4)=((w32 ((pc:Int)+4):Nat):Int):=Qau _;have xA:=Qab hY A;have xB:=Qab hY B;have xC:=Qab hY C;have lm:=QaE m;have hl:=Qao x pc c hx hc;have hs:=Qal x pc c;have hk:=Qag x pc c;have wI:=Qah hl;obtain ⟨V,hV⟩:∃ V,w32 ((pc:Int)+4)=V:=⟨_,rfl⟩;obtain ⟨PP,qQ⟩:∃ PP,w32 ((x.getD B 0:Nat)+(w32 m:Nat))=PP:=⟨_,rfl⟩;rw [hV,qQ];rw [hV] at q4;have qT:IntKind.u32.wrap (((x.getD B 0:Nat):Int)+((w32 m:Nat):Int))=(PP:Int):=by rw [Qau,qQ]
 have gN:=Qhy x pc c A V hx hc hA;have jI:=Qao (QaC x A V) pc c (by rw [Qay];exact hx) hc;have gW:=Qal (QaC x A V) pc c;have qZ:=Qag (QaC x A V) pc c;have wF:QaB (Qax x pc c) 0 (Qax (QaC x A V) pc c)=Qax (QaC x A V) pc c:=Qcb (by omega);have qW:=QaN (QaC x A V) pc c PP (by rw [Qay];exact hx);have jE:=Qao (QaC x A V) PP c (by rw [Qay];exact hx) hc;have fG:=Qal (QaC x A V) PP c;have wV:=Qag (QaC x A V) PP c;have yS:=Qah jE;have gp2:=QaA (QaC x A V) pc c (by rw [Qay];exact hx);generalize Qax (QaC x A V) PP c=C3,Qax (QaC x A V) pc c=C2 at *;clear eX eP eC eE hY gA hm;generalize x.getD A 0=vA,x.getD B 0=vB,x.getD C 0=vC at *;skip;generalize Qax x pc c=CC,w32 m=mm,w32 ((pc:Int)+4)=p4 at *;refine fnW Tryz.func189 ?_;(repeat' ((conv=>whnf);first|exact zi2|refine zj0 fun hb=>?_|refine QCX ?_|(with_reducible first|refine zv qm ?_|refine zv q4 ?_|refine zv qT ?_)|refine QCW ?_|refine Qzo ?_|refine zq5 ?_|(refine zpu gN ?_)|refine zse ?_|refine zbb ?_ ?_))
 all_goals exact zF_
theorem Qs5 (x:List Nat) (pc:Nat) (c:List Nat) (o:Int) (A B C:Nat) (m:Int) (hx:x.length=16) (hc:c.length=8) (hY:ZL x) (gA:ZL c) (gQ:ZU pc) (hA:A<16) (hB:B<16) (hC:C<16) (hm:o=58->0<=m/\m<8) (gB: -32768<=m/\m<=65535) (ho:o=58) :
  FN 189 [.agg (Qax x pc c),.agg (iv o A B C m)] [] (. =⟨.tup [.agg (Qax (exX x pc c o A B C m) (exP x pc c o A B m) (exC x pc c o A m)),.agg (exE x o A m)],[],[]⟩):=by
 have eX:exX x pc c o A B C m=QaC x A (c.getD m.toNat 0):=QDC;have eP:exP x pc c o A B m=w32 ((pc:Int)+4):=QiB;have eC:exC x pc c o A m=c:=Qf5;have eE:exE x o A m= [.i 0,.i 0,.i 0,.u (0:Nat)]:=Qkc;rw [eX,eP,eC,eE];have rA:=Qav x pc c A hx hA;have rB:=Qav x pc c B hx hB;have rC:=Qav x pc c C hx hC;have gp:=QaA x pc c hx;have qm:IntKind.u32.wrap m=((w32 m:Nat):Int):=Qau m;have q4:IntKind.u32.wrap ((pc:Int)+4)=((w32 ((pc:Int)+4):Nat):Int):=Qau _;have xA:=Qab hY A;have xB:=Qab hY B;have xC:=Qab hY C;have lm:=QaE m;have hl:=Qao x pc c hx hc;have hs:=Qal x pc c;have hk:=Qag x pc c;have wI:=Qah hl;obtain ⟨V,hV⟩:∃ V,c.getD m.toNat 0=V:=⟨_,rfl⟩;obtain ⟨PP,qQ⟩:∃ PP,w32 ((pc:Int)+4)=PP:=⟨_,rfl⟩;rw [hV,qQ];rw [qQ] at q4;have hm8:=hm ho;have rM:=Qdf x pc c m.toNat hx hc (by omega);rw [hV] at rM;have gN:=Qhy x pc c A V hx hc hA;have jI:=Qao (QaC x A V) pc c (by rw [Qay];exact hx) hc;have gW:=Qal (QaC x A V) pc c;have qZ:=Qag (QaC x A V) pc c;have wF:QaB (Qax x pc c) 0 (Qax (QaC x A V) pc c)=Qax (QaC x A V) pc c:=Qcb (by omega);have qW:=QaN (QaC x A V) pc c PP (by rw [Qay];exact hx);have jE:=Qao (QaC x A V) PP c (by rw [Qay];exact hx) hc;have fG:=Qal (QaC x A V) PP c;have wV:=Qag (QaC x A V) PP c;have yS:=Qah jE;have gp2:=QaA (QaC x A V) pc c (by rw [Qay];exact hx);generalize Qax (QaC x A V) PP c=C3,Qax (QaC x A V) pc c=C2 at *;clear eX eP eC eE hY gA hm;generalize x.getD A 0=vA,x.getD B 0=vB,x.getD C 0=vC at *;skip;generalize Qax x pc c=CC,w32 m=mm,w32 ((pc:Int)+4)=p4 at *;refine fnW Tryz.func189 ?_;(repeat' ((conv=>whnf);first|exact zi2|refine zj0 fun hb=>?_|((with_reducible apply Ge.mk (α:=SV)); . first|exact rA|exact rB|exact gp|exact rM)|refine Qzp ?_|refine QCW ?_|refine Qzo ?_|(apply Sd.mk; . first|exact ⟨jE,wV,rfl,(by show 0+C3.length<=25;omega)⟩|exact ⟨jI,qZ,rfl,(by show 0+C2.length<=CC.length;omega)⟩|(refine ⟨rfl,rfl,rfl,?_⟩;show 16+1<=C2.length;omega)|(show (0:Int)<=A/\(A:Int)<16;omega)|(show (0:Int)<=B/\(B:Int)<16;omega)|(show (0:Int)<=m/\m<(8:Int);omega))|(refine zpu gN ?_)|refine zse ?_|refine zbb ?_ ?_))
 all_goals exact zF_
theorem QkD (x:List Nat) (pc:Nat) (c:List Nat) (o:Int) (A B C:Nat) (m:Int) (hx:x.length=16) (hc:c.length=8) (hY:ZL x) (gA:ZL c) (gQ:ZU pc) (hA:A<16) (hB:B<16) (hC:C<16) (hm:o=58->0<=m/\m<8) (gB: -32768<=m/\m<=65535) (ho:(40<=o/\o<=45)/\Qc7 o (x.getD A 0) (x.getD B 0)=true) :
  FN 189 [.agg (Qax x pc c),.agg (iv o A B C m)] [] (. =⟨.tup [.agg (Qax (exX x pc c o A B C m) (exP x pc c o A B m) (exC x pc c o A m)),.agg (exE x o A m)],[],[]⟩):=by
 have eX:exX x pc c o A B C m=x:=Qhb;have eP:exP x pc c o A B m=w32 ((pc:Int)+w32 (4*(w32 m:Nat))):=QuL;have eC:exC x pc c o A m=c:=Qf5;have eE:exE x o A m= [.i 0,.i 0,.i 0,.u (0:Nat)]:=Qkc;rw [eX,eP,eC,eE];have rA:=Qav x pc c A hx hA;have rB:=Qav x pc c B hx hB;have rC:=Qav x pc c C hx hC;have gp:=QaA x pc c hx;have qm:IntKind.u32.wrap m=((w32 m:Nat):Int):=Qau m;have q4:IntKind.u32.wrap ((pc:Int)+4)=((w32 ((pc:Int)+4):Nat):Int):=Qau _;have xA:=Qab hY A;have xB:=Qab hY B;have xC:=Qab hY C;have lm:=QaE m;have hl:=Qao x pc c hx hc;have hs:=Qal x pc c;have hk:=Qag x pc c;have wI:=Qah hl;obtain ⟨PP,qQ⟩:∃ PP,w32 ((pc:Int)+w32 (4*(w32 m:Nat)))=PP:=⟨_,rfl⟩;rw [qQ];have jJ:=Qmt o (x.getD A 0) (x.getD B 0) xA xB;have q4m:IntKind.u32.wrap (4*((w32 m:Nat):Int))=((w32 (4*(w32 m:Nat)):Nat):Int):=Qau _;rw [ho.2] at jJ;have qT:IntKind.u32.wrap ((pc:Int)+((w32 (4*(w32 m:Nat)):Nat):Int))=(PP:Int):=by rw [Qau,qQ]
 replace ho:=ho.1;have qW:=QaN x pc c PP hx;have jE:=Qao x PP c hx hc;have fG:=Qal x PP c;have wV:=Qag x PP c;have yS:=Qah jE;generalize Qax x PP c=C3 at *;clear eX eP eC eE hY gA hm;generalize x.getD A 0=vA,x.getD B 0=vB,x.getD C 0=vC,w32 (4*((w32 m:Nat):Int))=m4,Qax x pc c=CC at *;generalize w32 m=mm,w32 ((pc:Int)+4)=p4 at *;refine fnW Tryz.func189 ?_;(repeat' ((conv=>whnf);first|exact zi2|refine zj0 fun hb=>?_|refine QCX ?_|refine QEK ?_|refine QHC ?_|(apply Sg.mk; . exact Qa4 C3 jE)|refine QHe ?_|(refine zpu jJ ?_)|refine zse ?_|refine zbb ?_ ?_))
 all_goals exact zF_
theorem Qi7 (x:List Nat) (pc:Nat) (c:List Nat) (o:Int) (A B C:Nat) (m:Int) (hx:x.length=16) (hc:c.length=8) (hY:ZL x) (gA:ZL c) (gQ:ZU pc) (hA:A<16) (hB:B<16) (hC:C<16) (hm:o=58->0<=m/\m<8) (gB: -32768<=m/\m<=65535) (ho:(40<=o/\o<=45)/\Qc7 o (x.getD A 0) (x.getD B 0)=false) :
  FN 189 [.agg (Qax x pc c),.agg (iv o A B C m)] [] (. =⟨.tup [.agg (Qax (exX x pc c o A B C m) (exP x pc c o A B m) (exC x pc c o A m)),.agg (exE x o A m)],[],[]⟩):=by
 have eX:exX x pc c o A B C m=x:=Qhb;have eP:exP x pc c o A B m=w32 ((pc:Int)+4):=QuL;have eC:exC x pc c o A m=c:=Qf5;have eE:exE x o A m= [.i 0,.i 0,.i 0,.u (0:Nat)]:=Qkc;rw [eX,eP,eC,eE];have rA:=Qav x pc c A hx hA;have rB:=Qav x pc c B hx hB;have rC:=Qav x pc c C hx hC;have gp:=QaA x pc c hx;have qm:IntKind.u32.wrap m=((w32 m:Nat):Int):=Qau m;have q4:IntKind.u32.wrap ((pc:Int)+4)=((w32 ((pc:Int)+4):Nat):Int):=Qau _;have xA:=Qab hY A;have xB:=Qab hY B;have xC:=Qab hY C;have lm:=QaE m;have hl:=Qao x pc c hx hc;have hs:=Qal x pc c;have hk:=Qag x pc c;have wI:=Qah hl;obtain ⟨PP,qQ⟩:∃ PP,w32 ((pc:Int)+4)=PP:=⟨_,rfl⟩;rw [qQ];rw [qQ] at q4;have jJ:=Qmt o (x.getD A 0) (x.getD B 0) xA xB;have q4m:IntKind.u32.wrap (4*((w32 m:Nat):Int))=((w32 (4*(w32 m:Nat)):Nat):Int):=Qau _;rw [ho.2] at jJ;replace ho:=ho.1;have qW:=QaN x pc c PP hx;have jE:=Qao x PP c hx hc;have fG:=Qal x PP c;have wV:=Qag x PP c;have yS:=Qah jE;generalize Qax x PP c=C3 at *;clear eX eP eC eE hY gA hm;generalize x.getD A 0=vA,x.getD B 0=vB,x.getD C 0=vC,w32 (4*((w32 m:Nat):Int))=m4,Qax x pc c=CC at *;generalize w32 m=mm,w32 ((pc:Int)+4)=p4 at *;refine fnW Tryz.func189 ?_;(repeat' ((conv=>whnf);first|exact zi2|refine zj0 fun hb=>?_|refine QCX ?_|refine Qzp ?_|refine QHC ?_|(apply Sg.mk; . exact Qa4 C3 jE)|refine QHe ?_|(refine zpu jJ ?_)|refine zse ?_|refine zbb ?_ ?_))
 all_goals exact zF_
theorem QpE (x:List Nat) (pc:Nat) (c:List Nat) (o:Int) (A B C:Nat) (m:Int) (hx:x.length=16) (hc:c.length=8) (hY:ZL x) (gA:ZL c) (gQ:ZU pc) (hA:A<16) (hB:B<16) (hC:C<16) (hm:o=58->0<=m/\m<8) (gB: -32768<=m/\m<=65535) (ho:o=56) :
  FN 189 [.agg (Qax x pc c),.agg (iv o A B C m)] [] (. =⟨.tup [.agg (Qax (exX x pc c o A B C m) (exP x pc c o A B m) (exC x pc c o A m)),.agg (exE x o A m)],[],[]⟩):=by
 have eX:exX x pc c o A B C m=x:=Qhb;have eP:exP x pc c o A B m=c.getD 1 0:=QDI;have eC:exC x pc c o A m=trL pc c 7 0:=by unfold exC;rw [zP (by omega)]
 have eE:exE x o A m= [.i 0,.i 0,.i 0,.u (0:Nat)]:=Qkc;rw [eX,eP,eC,eE];have rA:=Qav x pc c A hx hA;have rB:=Qav x pc c B hx hB;have rC:=Qav x pc c C hx hC;have gp:=QaA x pc c hx;have qm:IntKind.u32.wrap m=((w32 m:Nat):Int):=Qau m;have q4:IntKind.u32.wrap ((pc:Int)+4)=((w32 ((pc:Int)+4):Nat):Int):=Qau _;have xA:=Qab hY A;have xB:=Qab hY B;have xC:=Qab hY C;have lm:=QaE m;have hl:=Qao x pc c hx hc;have hs:=Qal x pc c;have hk:=Qag x pc c;have wI:=Qah hl;have fK:=Qef x pc c 7 0 hx hc gA;rw [Qbk] at fK;have fG:=Qal x (c.getD 1 0) (trL pc c 7 0);have jE:=Qao x (c.getD 1 0) (trL pc c 7 0) hx rfl;have wV:=Qag x (c.getD 1 0) (trL pc c 7 0);have yS:=Qah jE;generalize Qax x (c.getD 1 0) (trL pc c 7 0)=C3 at *;exact QC2
theorem Qs7 (x:List Nat) (pc:Nat) (c:List Nat) (o:Int) (A B C:Nat) (m:Int) (hx:x.length=16) (hc:c.length=8) (hY:ZL x) (gA:ZL c) (gQ:ZU pc) (hA:A<16) (hB:B<16) (hC:C<16) (hm:o=58->0<=m/\m<8) (gB: -32768<=m/\m<=65535) (ho:o=57) :
  FN 189 [.agg (Qax x pc c),.agg (iv o A B C m)] [] (. =⟨.tup [.agg (Qax (exX x pc c o A B C m) (exP x pc c o A B m) (exC x pc c o A m)),.agg (exE x o A m)],[],[]⟩):=by
 have eX:exX x pc c o A B C m=x:=Qhb;have eP:exP x pc c o A B m=c.getD 2 0:=QDD;have eC:exC x pc c o A m=c.set 0 (QgG (c.getD 0 0)):=by unfold exC;rw [zN (by omega),zP (by omega)]
 have eE:exE x o A m= [.i 0,.i 0,.i 0,.u (0:Nat)]:=Qkc;rw [eX,eP,eC,eE];have rA:=Qav x pc c A hx hA;have rB:=Qav x pc c B hx hB;have rC:=Qav x pc c C hx hC;have gp:=QaA x pc c hx;have qm:IntKind.u32.wrap m=((w32 m:Nat):Int):=Qau m;have q4:IntKind.u32.wrap ((pc:Int)+4)=((w32 ((pc:Int)+4):Nat):Int):=Qau _;have xA:=Qab hY A;have xB:=Qab hY B;have xC:=Qab hY C;have lm:=QaE m;have hl:=Qao x pc c hx hc;have hs:=Qal x pc c;have hk:=Qag x pc c;have wI:=Qah hl;have fK:=QB9 x pc c hx hc gA;unfold QEA at fK;have fG:=Qal x (c.getD 2 0) (c.set 0 (QgG (c.getD 0 0)));have jE:=Qao x (c.getD 2 0) (c.set 0 (QgG (c.getD 0 0))) hx (by simpa using hc);have wV:=Qag x (c.getD 2 0) (c.set 0 (QgG (c.getD 0 0)));have yS:=Qah jE;generalize Qax x (c.getD 2 0) (c.set 0 (QgG (c.getD 0 0)))=C3 at *;exact QC2
theorem Qs6 (x:List Nat) (pc:Nat) (c:List Nat) (o:Int) (A B C:Nat) (m:Int) (hx:x.length=16) (hc:c.length=8) (hY:ZL x) (gA:ZL c) (gQ:ZU pc) (hA:A<16) (hB:B<16) (hC:C<16) (hm:o=58->0<=m/\m<8) (gB: -32768<=m/\m<=65535) (ho:o=59) :
  FN 189 [.agg (Qax x pc c),.agg (iv o A B C m)] [] (. =⟨.tup [.agg (Qax (exX x pc c o A B C m) (exP x pc c o A B m) (exC x pc c o A m)),.agg (exE x o A m)],[],[]⟩):=by
 have eX:exX x pc c o A B C m=x:=Qhb;have eP:exP x pc c o A B m=w32 ((pc:Int)+4):=QiB;have eC:exC x pc c o A m=wrL c m (x.getD A 0):=by unfold exC;rw [zN (by omega),zN (by omega),zP (by omega)]
 have eE:exE x o A m= [.i 0,.i 0,.i 0,.u (0:Nat)]:=Qkc;rw [eX,eP,eC,eE];have rA:=Qav x pc c A hx hA;have rB:=Qav x pc c B hx hB;have rC:=Qav x pc c C hx hC;have gp:=QaA x pc c hx;have qm:IntKind.u32.wrap m=((w32 m:Nat):Int):=Qau m;have q4:IntKind.u32.wrap ((pc:Int)+4)=((w32 ((pc:Int)+4):Nat):Int):=Qau _;have xA:=Qab hY A;have xB:=Qab hY B;have xC:=Qab hY C;have lm:=QaE m;have hl:=Qao x pc c hx hc;have hs:=Qal x pc c;have hk:=Qag x pc c;have wI:=Qah hl;have gN:=QuB x pc c m (x.getD A 0) hx hc xA;rw [QvP] at gN;have jI:=Qao x pc (wrL c m (x.getD A 0)) hx (by rw [QgV];exact hc);have gW:=Qal x pc (wrL c m (x.getD A 0));have qZ:=Qag x pc (wrL c m (x.getD A 0));have wF:QaB (Qax x pc c) 0 (Qax x pc (wrL c m (x.getD A 0)))=Qax x pc (wrL c m (x.getD A 0)):=Qcb (by omega);have qW:=QaN x pc (wrL c m (x.getD A 0)) (w32 ((pc:Int)+4)) hx;have jE:=Qao x (w32 ((pc:Int)+4)) (wrL c m (x.getD A 0)) hx (by rw [QgV];exact hc);have fG:=Qal x (w32 ((pc:Int)+4)) (wrL c m (x.getD A 0));have wV:=Qag x (w32 ((pc:Int)+4)) (wrL c m (x.getD A 0));have yS:=Qah jE;have gp2:=QaA x pc (wrL c m (x.getD A 0)) hx;generalize Qax x (w32 ((pc:Int)+4)) (wrL c m (x.getD A 0))=C3,Qax x pc (wrL c m (x.getD A 0))=C2 at *;clear eX eP eC eE hY gA hm;generalize x.getD A 0=vA,x.getD B 0=vB,x.getD C 0=vC at *;skip;generalize Qax x pc c=CC,w32 m=mm,w32 ((pc:Int)+4)=p4 at *;refine fnW Tryz.func189 ?_;(repeat' ((conv=>whnf);first|exact zi2|refine zj0 fun hb=>?_|refine QCX ?_|(with_reducible first|refine zv qm ?_|refine zv q4 ?_|refine zv (Qb3 (by omega) (by omega)) ?_)|refine QCW ?_|refine Qzo ?_|refine zq5 ?_|(refine zpu gN ?_)|refine zse ?_|refine zbb ?_ ?_))
 all_goals exact zF_
theorem QA3 (x:List Nat) (pc:Nat) (c:List Nat) (o:Int) (A B C:Nat) (m:Int) (hx:x.length=16) (hc:c.length=8) (hY:ZL x) (gA:ZL c) (gQ:ZU pc) (hA:A<16) (hB:B<16) (hC:C<16) (hm:o=58->0<=m/\m<8) (gB: -32768<=m/\m<=65535) (ho:o=60) :
  FN 189 [.agg (Qax x pc c),.agg (iv o A B C m)] [] (. =⟨.tup [.agg (Qax (exX x pc c o A B C m) (exP x pc c o A B m) (exC x pc c o A m)),.agg (exE x o A m)],[],[]⟩):=by
 have eX:exX x pc c o A B C m=x:=Qhb;have eP:exP x pc c o A B m=w32 ((pc:Int)+4):=QiB;have eC:exC x pc c o A m=c:=Qf5;have eE:exE x o A m= [.i 1,.i m,.i (A:Nat),.u (0:Nat)]:=by unfold exE;rw [zP (by omega)]
 exact QDh
theorem QwY (x:List Nat) (pc:Nat) (c:List Nat) (o:Int) (A B C:Nat) (m:Int) (hx:x.length=16) (hc:c.length=8) (hY:ZL x) (gA:ZL c) (gQ:ZU pc) (hA:A<16) (hB:B<16) (hC:C<16) (hm:o=58->0<=m/\m<8) (gB: -32768<=m/\m<=65535) (ho:o=61) :
  FN 189 [.agg (Qax x pc c),.agg (iv o A B C m)] [] (. =⟨.tup [.agg (Qax (exX x pc c o A B C m) (exP x pc c o A B m) (exC x pc c o A m)),.agg (exE x o A m)],[],[]⟩):=by
 have eX:exX x pc c o A B C m=x:=Qhb;have eP:exP x pc c o A B m=w32 ((pc:Int)+4):=QiB;have eC:exC x pc c o A m=c:=Qf5;have eE:exE x o A m= [.i 2,.i m,.i 0,.u (x.getD A 0:Nat)]:=by unfold exE;rw [zN (by omega),zP (by omega)]
 exact QDh
theorem QwZ (x:List Nat) (pc:Nat) (c:List Nat) (o:Int) (A B C:Nat) (m:Int) (hx:x.length=16) (hc:c.length=8) (hY:ZL x) (gA:ZL c) (gQ:ZU pc) (hA:A<16) (hB:B<16) (hC:C<16) (hm:o=58->0<=m/\m<8) (gB: -32768<=m/\m<=65535) (ho:o=62) :
  FN 189 [.agg (Qax x pc c),.agg (iv o A B C m)] [] (. =⟨.tup [.agg (Qax (exX x pc c o A B C m) (exP x pc c o A B m) (exC x pc c o A m)),.agg (exE x o A m)],[],[]⟩):=by
 have eX:exX x pc c o A B C m=x:=Qhb;have eP:exP x pc c o A B m=w32 ((pc:Int)+4):=QiB;have eC:exC x pc c o A m=c:=Qf5;have eE:exE x o A m= [.i 3,.i 0,.i 0,.u (0:Nat)]:=by unfold exE;rw [zN (by omega),zN (by omega),zP (by omega)]
 exact QDh
theorem QpF (x:List Nat) (pc:Nat) (c:List Nat) (o:Int) (A B C:Nat) (m:Int) (hx:x.length=16) (hc:c.length=8) (hY:ZL x) (gA:ZL c) (gQ:ZU pc) (hA:A<16) (hB:B<16) (hC:C<16) (hm:o=58->0<=m/\m<8) (gB: -32768<=m/\m<=65535) (ho:o=63) :
  FN 189 [.agg (Qax x pc c),.agg (iv o A B C m)] [] (. =⟨.tup [.agg (Qax (exX x pc c o A B C m) (exP x pc c o A B m) (exC x pc c o A m)),.agg (exE x o A m)],[],[]⟩):=by
 have eX:exX x pc c o A B C m=x:=Qhb;have eP:exP x pc c o A B m=w32 ((pc:Int)+4):=QiB;have eC:exC x pc c o A m=c:=Qf5;have eE:exE x o A m= [.i 5,.i 0,.i 0,.u (0:Nat)]:=QDJ;exact QDh
theorem Qs8 (x:List Nat) (pc:Nat) (c:List Nat) (o:Int) (A B C:Nat) (m:Int) (hx:x.length=16) (hc:c.length=8) (hY:ZL x) (gA:ZL c) (gQ:ZU pc) (hA:A<16) (hB:B<16) (hC:C<16) (hm:o=58->0<=m/\m<8) (gB: -32768<=m/\m<=65535) (ho:o=64) :
  FN 189 [.agg (Qax x pc c),.agg (iv o A B C m)] [] (. =⟨.tup [.agg (Qax (exX x pc c o A B C m) (exP x pc c o A B m) (exC x pc c o A m)),.agg (exE x o A m)],[],[]⟩):=by
 have eX:exX x pc c o A B C m=x:=Qhb;have eP:exP x pc c o A B m=w32 ((pc:Int)+4):=QiB;have eC:exC x pc c o A m=c:=Qf5;have eE:exE x o A m= [.i 4,.i 0,.i 0,.u (0:Nat)]:=QDE;exact QDh
theorem Qhs {xs:List Nat} {n s r va:Nat} {sz ac:Int} (h:rsK xs n s r va sz ac=0):rsO xs n s r va sz ac=true:=by
 unfold rsK at h;split at h
 .assumption
 .split at h
  .omega
  .split at h
   .unfold Qcs at h;split at h;omega;split at h<;>omega
   .omega
theorem Qhr {xs:List Nat} {n s r va:Nat} {sz ac:Int} (h:rsO xs n s r va sz ac=true) (gV:ZU va):acB sz n (rsA xs n s r va sz ac)=true/\rsA xs n s r va sz ac<4294967296:=by
 have h0:=h;unfold rsO at h;simp only [zba,zde] at h;obtain ⟨⟨⟨_,h2⟩,_⟩,h4⟩:=h;unfold rsA;rw [h0,zP rfl]
 cases hp:Qc5 s with
 | false =>
  rw [hp,zN (by decide)] at h4;rw [zN (by decide)];exact ⟨h4,gV⟩
 | true =>
  rw [hp,zP rfl] at h4;rw [zP rfl];unfold Qbl at h4;simp only [zba,zde] at h4;have hm:=QaT n;have hf:=h4.2;unfold szB at h2;simp only [zde] at h2;generalize frW (QaR xs r va)=f at *;refine ⟨?_,by omega⟩;unfold acB;rcases h2 with rfl|rfl
  .rw [zN (by decide)]
   unfold ld1;exact zdt (by omega)
  .rw [zP rfl]
   unfold ld4;rw [zdt (by omega),zdt (by omega)];rfl
def ftW (xs:List Nat) (n s r pc:Nat):Nat:=if rsK xs n s r pc 4 1=0 then (rsM xs n s r pc 4 1).getD (rsA xs n s r pc 4 1 / 4) 0 else 0
theorem QpX (xs:List Nat) (n s r pc:Nat) (hY:ZL xs):ftW xs n s r pc<4294967296:=by
 unfold ftW;split
 .exact Qab (Qc2 xs n s r pc 4 1 hY) _
 .decide
theorem QoB (x:List Nat) (pc:Nat) (c:List Nat) (xs:List Nat) (n:Nat) (hx:x.length=16) (hc:c.length=8) (gM:ZL c) (gQ:ZU pc) (hl:xs.length=n) (hY:ZL xs) (hn:ZU n) :
  FN 185 [.agg (Qax x pc c),.s (.sl 0 0 n)] [⟨false,1,wsv xs⟩]
   (. =⟨.tup [.s (.u (ftW xs n (c.getD 0 0) (c.getD 6 0) pc:Nat)),.s (.sl 1 0 n),.s (.i (rsK xs n (c.getD 0 0) (c.getD 6 0) pc 4 1))],[],[⟨true,1,wsv (rsM xs n (c.getD 0 0) (c.getD 6 0) pc 4 1)⟩]⟩):=by
 have hr:=Qd0 x pc c xs n pc 4 1 hx hc gM hl hY hn gQ;have gS:=Qao (x) (pc) (c) hx hc;have jG:=Qal (x) (pc) (c);have qL:=Qag (x) (pc) (c);have qR:=Qah gS;have gpCC:=QaA (x) (pc) (c) hx;generalize c.getD 0 0=S,c.getD 6 0=R at *;have gK:=Qaa xs;have JE:=Qaa (rsM xs n S R pc 4 1);unfold ftW
 by_cases hK:rsK xs n S R pc 4 1=0
 .have hok:=Qhs hK
  obtain ⟨ha,wA⟩:=Qhr hok gQ;have qF:=Qb7 (rsM xs n S R pc 4 1) n (rsA xs n S R pc 4 1) (by rw [Qbh];exact hl) hn wA ha;rw [zP hK];rw [hK] at hr |-;generalize rsA xs n S R pc 4 1=AA at *;generalize (rsM xs n S R pc 4 1).getD (AA / 4) 0=W,wsv (rsM xs n S R pc 4 1)=XM,wsv xs=XX,Qax (x) (pc) (c)=CC at *;refine fnW Tryz.func185 ?_;(repeat' ((conv=>whnf);first|exact zi2|refine zj0 fun hb=>?_|(apply Sg.mk; . first|exact Qa4 CC gS)|((with_reducible apply Ge.mk (α:=SV)); . first|exact gpCC)|(refine QaD hr ?_)|(refine QaD qF ?_)|refine zse ?_|refine zbb ?_ ?_))
  all_goals exact Qff
 .rw [zN hK]
  generalize rsK xs n S R pc 4 1=K,rsA xs n S R pc 4 1=AA,wsv (rsM xs n S R pc 4 1)=XM,wsv xs=XX,Qax (x) (pc) (c)=CC at *;refine fnW Tryz.func185 ?_;(repeat' ((conv=>whnf);first|exact zi2|refine zj0 fun hb=>?_|(apply Sg.mk; . first|exact Qa4 CC gS)|((with_reducible apply Ge.mk (α:=SV)); . first|exact gpCC)|(refine QaD hr ?_)|refine zse ?_|refine zbb ?_ ?_))
  all_goals exact Qff
def wd (o:Int):Int:=if o=32\/o=35 then 4 else 1
theorem QmC (o:Int) (h:32<=o/\o<=36):FN 226 [.s (.i o)] [] (. =⟨.a (.s (.i (wd o))),[],[]⟩):=by
 have e:o=32\/o=33\/o=34\/o=35\/o=36:=by omega
 rcases e with rfl|rfl|rfl|rfl|rfl
 all_goals
  refine fnW Tryz.func226 ?_;(conv=>whnf);(repeat' ((first|exact zi0|refine zj0 fun hb=>?_|refine zs0 ?_|refine zbb ?_ ?_)<;>conv=>whnf))
  all_goals exact Qam rfl rfl
def sx8 (x:Nat):Nat:=if x%256<128 then x%256 else x%256+4294967040
theorem QH5 (x:Nat) (hx:ZU x):IntKind.u32.wrap ((x:Int)*2^min ((32:Int)-8).toNat IntKind.u32.bits)=((x%256:Nat):Int)*16777216:=by
 rw [show (2:Int)^min ((32:Int)-8).toNat IntKind.u32.bits=16777216 from rfl,Qce];omega
theorem QH6 (x:Nat) (hx:x<256):IntKind.i32.wrap ((x:Int)*16777216)=(if x<128 then (x:Int) else x-256)*16777216:=by
 unfold IntKind.wrap;simp only [IntKind.signed,IntKind.bits,Bool.true_and,zde]
 by_cases h:x<128
 .rw [zP h,zN (by simp;omega)];omega
 .rw [zN h,zP (by simp;omega)];omega
theorem QH7 (x:Int):x*16777216 / 2^min ((32:Int)-8).toNat IntKind.i32.bits=x:=by
 rw [show (2:Int)^min ((32:Int)-8).toNat IntKind.i32.bits=16777216 from rfl];omega
theorem QH8 (x:Nat):IntKind.u32.wrap (if x%256<128 then ((x%256:Nat):Int) else ((x%256:Nat):Int)-256)=(sx8 x:Nat):=by
 unfold sx8;rw [Qce]
 by_cases h:x%256<128
 .rw [zP h,zP h];omega
 .rw [zN h,zN h];omega
theorem QCs (x:Nat) (hx:ZU x):FN 180 [.s (.u x),.s (.i 8)] [] (. =⟨.a (.s (.u (sx8 x:Nat))),[],[]⟩):=by
 refine fnW Tryz.func180 ?_;(conv=>whnf);(repeat' ((first|exact zi0|refine zj0 fun hb=>?_|((with_reducible apply Vl.mk (α:=Int)); . first|exact QH5 x hx|exact QH6 (x%256) (by omega)|exact QH7 _|exact QH8 x)|refine zs0 ?_|refine zbb ?_ ?_)<;>conv=>whnf))
 all_goals exact Qam rfl rfl
theorem QCt (x:Nat):sx8 x<4294967296:=by unfold sx8;split<;>omega
theorem Qow (w a:Nat):byN w a<256:=Nat.mod_lt _ (by decide)
def ldV (o:Int) (M:List Nat) (a:Nat):Nat:=if o=32 then M.getD (a / 4) 0 else if o=33 then sx8 (byN (M.getD (a / 4) 0) a) else byN (M.getD (a / 4) 0) a
theorem Qvp (o:Int) (M:List Nat) (a:Nat) (h:ZL M):ldV o M a<4294967296:=by
 have:=Qab h (a / 4);have:=Qow (M.getD (a / 4) 0) a;have:=QCt (byN (M.getD (a / 4) 0) a);unfold ldV;split;assumption;split<;>omega
def stM (o:Int) (M:List Nat) (a v:Nat):List Nat:=if o=35 then M.set (a / 4) v else Qnd M a v
theorem Qcp (o:Int) (M:List Nat) (a v:Nat):(stM o M a v).length=M.length:=by unfold stM Qnd;split<;>simp
theorem QrE (o:Int) (M:List Nat) (a v:Nat) (h:ZL M) (hv:ZU v):∀ y∈stM o M a v,y<4294967296:=by
 unfold stM Qnd;split
 .exact QgO h _ _ hv
 .exact QgO h _ _ (QCl _ _ _)
def vaO (x:List Nat) (B:Nat) (m:Int):Nat:=w32 ((x.getD B 0:Nat)+(w32 m:Nat))
def ldX (x:List Nat) (xs:List Nat) (n s r va:Nat) (o:Int) (A:Nat):List Nat:=if rsK xs n s r va (wd o) 2=0 then QaC x A (ldV o (rsM xs n s r va (wd o) 2) (rsA xs n s r va (wd o) 2)) else x
def trP (pc:Nat) (c:List Nat) (K:Int):Nat:=if K=0 then w32 ((pc:Int)+4) else c.getD 1 0
def trC (pc:Nat) (c:List Nat) (K:Int) (va:Nat):List Nat:=if K=0 then c else trL pc c K va
def stX (xs:List Nat) (n s r va v:Nat) (o:Int):List Nat:=if rsK xs n s r va (wd o) 3=0 then stM o (rsM xs n s r va (wd o) 3) (rsA xs n s r va (wd o) 3) v else rsM xs n s r va (wd o) 3
theorem QsI (x:List Nat) (pc:Nat) (c:List Nat) (xs:List Nat) (n:Nat) (o:Int) (A B C:Nat) (m:Int) (hx:x.length=16) (hc:c.length=8) (gM:ZL c) (gQ:ZU pc) (hl:xs.length=n) (hY:ZL xs) (hn:ZU n) (jK:ZL x) (hA:A<16) (hB:B<16) (ho:32<=o/\o<=34) :
  FN 187 [.agg (Qax x pc c),.s (.sl 0 0 n),.agg (iv o A B C m)] [⟨false,1,wsv xs⟩]
   (. =⟨.tup [.agg (Qax (ldX x xs n (c.getD 0 0) (c.getD 6 0) (vaO x B m) o A) (trP pc c (rsK xs n (c.getD 0 0) (c.getD 6 0) (vaO x B m) (wd o) 2)) (trC pc c (rsK xs n (c.getD 0 0) (c.getD 6 0) (vaO x B m) (wd o) 2) (vaO x B m))),.s (.sl 1 0 n)],[],[⟨true,1,wsv (rsM xs n (c.getD 0 0) (c.getD 6 0) (vaO x B m) (wd o) 2)⟩]⟩):=by
 have gV:vaO x B m<4294967296:=QaE _;have VH:=QmC o (by omega);have hr:=Qd0 x pc c xs n (vaO x B m) (wd o) 2 hx hc gM hl hY hn gV;have rA:=Qav x pc c A hx hA;have rB:=Qav x pc c B hx hB;have xA:=Qab jK A;have qm:IntKind.u32.wrap m=((w32 m:Nat):Int):=Qau m;have q4:IntKind.u32.wrap ((pc:Int)+4)=((w32 ((pc:Int)+4):Nat):Int):=Qau _;have qv:IntKind.u32.wrap (((x.getD B 0:Nat):Int)+((w32 m:Nat):Int))=((vaO x B m:Nat):Int):=Qau _;have gK:=Qaa xs;generalize c.getD 0 0=S,c.getD 6 0=R,vaO x B m=va at *;have gS:=Qao (x) (pc) (c) hx hc;have jG:=Qal (x) (pc) (c);have qL:=Qag (x) (pc) (c);have qR:=Qah gS;have gpCC:=QaA (x) (pc) (c) hx;have JE:=Qaa (rsM xs n S R va (wd o) 2);unfold ldX trP trC
 by_cases hK:rsK xs n S R va (wd o) 2=0
 .have hok:=Qhs hK
  obtain ⟨ha,wA⟩:=Qhr hok gV;have gH:(rsM xs n S R va (wd o) 2).length=n:=by rw [Qbh];exact hl
  have gB:=Qc2 xs n S R va (wd o) 2 hY;rw [zP hK,zP hK,zP hK];rw [hK] at hr;generalize rsM xs n S R va (wd o) 2=M,rsA xs n S R va (wd o) 2=AA at *
  obtain ⟨V0,qF,hV⟩:∃ V0,FN 110 [.s (.sl 0 0 n),.s (.u AA),.s (.i (wd o))] [⟨false,1,wsv M⟩] (. =⟨.tup [.s (.u ((V0:Nat):Int)),.s (.bool true)],[],[]⟩)/\V0<4294967296/\ldV o M AA=(if o=33 then sx8 V0 else V0):=by
   by_cases h32:o=32
   .subst h32
    exact ⟨_,Qb7 M n AA gH hn wA ha,Qab gB _,rfl⟩
   .have wF:wd o=1:=zN (by omega)
    rw [wF] at ha |-;refine ⟨_,Ql3 M n AA gH gB hn wA ha,Nat.lt_trans (Qow _ _) (by decide),?_⟩;unfold ldV;rw [zN h32]
  have HS:=QCs V0 hV.1;obtain ⟨V,VU⟩:∃ V,ldV o M AA=V:=⟨_,rfl⟩;rw [VU] at hV |-;have gN:=Qhy x pc c A V hx hc hA;have qW:=QaN (QaC x A V) pc c (w32 ((pc:Int)+4)) (by rw [Qay];exact hx);have qK:=Qao (QaC x A V) (pc) (c) (by rw [Qay];exact hx) hc;have uJ:=Qal (QaC x A V) (pc) (c);have jQ:=Qag (QaC x A V) (pc) (c);have wJ:=Qah qK;have gpC2:=QaA (QaC x A V) (pc) (c) (by rw [Qay];exact hx);have gC:=Qao (QaC x A V) (w32 ((pc:Int)+4)) (c) (by rw [Qay];exact hx) hc;have fO:=Qal (QaC x A V) (w32 ((pc:Int)+4)) (c);have gR:=Qag (QaC x A V) (w32 ((pc:Int)+4)) (c);have fD:=Qah gC;have gpC3:=QaA (QaC x A V) (w32 ((pc:Int)+4)) (c) (by rw [Qay];exact hx);clear VU;generalize wsv M=XM,wsv xs=XX,x.getD A 0=vA,x.getD B 0=vB,w32 m=mm,Qax (QaC x A V) (w32 ((pc:Int)+4)) (c)=C3,Qax (QaC x A V) (pc) (c)=C2,Qax (x) (pc) (c)=CC at *;generalize w32 ((pc:Int)+4)=p4 at *;have e:o=32\/o=33\/o=34:=by omega
  have hV0:=hV.1;rcases e with rfl|rfl|rfl
  all_goals first
   | (
     obtain hq:V=sx8 V0:=hV.2;rw [<- hq] at HS
     clear hq hV)
   | (
     obtain rfl:V=V0:=hV.2
     clear hV)
  all_goals
   refine fnW Tryz.func187 ?_;(repeat' ((conv=>whnf);first|exact zi2|refine zj0 fun hb=>?_|refine QEO ?_|refine QGz ?_|refine QCU ?_|refine zq1 ?_|((with_reducible apply Ge.mk (α:=SV)); . first|exact rB|exact gpC2)|(refine QaD hr ?_)|(refine QaD qF ?_)|(refine zpu VH ?_)|(refine zpu HS ?_)|(refine zpu gN ?_)|refine zse ?_|refine zbb ?_ ?_))
   all_goals exact Qff
 .have fK:=Qef x pc c (rsK xs n S R va (wd o) 2) va hx hc gM
  rw [Qbk] at fK;rw [zN hK,zN hK,zN hK];have gC:=Qao (x) (c.getD 1 0) (trL pc c (rsK xs n S R va (wd o) 2) va) hx rfl;have fO:=Qal (x) (c.getD 1 0) (trL pc c (rsK xs n S R va (wd o) 2) va);have gR:=Qag (x) (c.getD 1 0) (trL pc c (rsK xs n S R va (wd o) 2) va);have fD:=Qah gC;have gpC3:=QaA (x) (c.getD 1 0) (trL pc c (rsK xs n S R va (wd o) 2) va) hx;generalize wsv (rsM xs n S R va (wd o) 2)=XM,rsA xs n S R va (wd o) 2=AA,wsv xs=XX,x.getD A 0=vA,x.getD B 0=vB,w32 m=mm,Qax (x) (c.getD 1 0) (trL pc c (rsK xs n S R va (wd o) 2) va)=C3,Qax (x) (pc) (c)=CC at *;generalize rsK xs n S R va (wd o) 2=K at *;generalize wd o=wo at *;refine fnW Tryz.func187 ?_;exact QDO
theorem QoQ (x:List Nat) (pc:Nat) (c:List Nat) (xs:List Nat) (n:Nat) (o:Int) (A B C:Nat) (m:Int) (hx:x.length=16) (hc:c.length=8) (gM:ZL c) (gQ:ZU pc) (hl:xs.length=n) (hY:ZL xs) (hn:ZU n) (jK:ZL x) (hA:A<16) (hB:B<16) (ho:35<=o/\o<=36) :
  FN 188 [.agg (Qax x pc c),.s (.sl 0 0 n),.agg (iv o A B C m)] [⟨false,1,wsv xs⟩]
   (. =⟨.tup [.agg (Qax x (trP pc c (rsK xs n (c.getD 0 0) (c.getD 6 0) (vaO x B m) (wd o) 3)) (trC pc c (rsK xs n (c.getD 0 0) (c.getD 6 0) (vaO x B m) (wd o) 3) (vaO x B m))),.s (.sl 1 0 n)],[],[⟨true,1,wsv (stX xs n (c.getD 0 0) (c.getD 6 0) (vaO x B m) (x.getD A 0) o)⟩]⟩):=by
 have gV:vaO x B m<4294967296:=QaE _;have VH:=QmC o (by omega);have hr:=Qd0 x pc c xs n (vaO x B m) (wd o) 3 hx hc gM hl hY hn gV;have rA:=Qav x pc c A hx hA;have rB:=Qav x pc c B hx hB;have xA:=Qab jK A;have qm:IntKind.u32.wrap m=((w32 m:Nat):Int):=Qau m;have q4:IntKind.u32.wrap ((pc:Int)+4)=((w32 ((pc:Int)+4):Nat):Int):=Qau _;have qv:IntKind.u32.wrap (((x.getD B 0:Nat):Int)+((w32 m:Nat):Int))=((vaO x B m:Nat):Int):=Qau _;have gK:=Qaa xs;generalize c.getD 0 0=S,c.getD 6 0=R,vaO x B m=va at *;have gS:=Qao (x) (pc) (c) hx hc;have jG:=Qal (x) (pc) (c);have qL:=Qag (x) (pc) (c);have qR:=Qah gS;have gpCC:=QaA (x) (pc) (c) hx;have JE:=Qaa (rsM xs n S R va (wd o) 3);unfold stX trP trC
 by_cases hK:rsK xs n S R va (wd o) 3=0
 .have hok:=Qhs hK
  obtain ⟨ha,wA⟩:=Qhr hok gV;have gH:(rsM xs n S R va (wd o) 3).length=n:=by rw [Qbh];exact hl
  have gB:=Qc2 xs n S R va (wd o) 3 hY;rw [zP hK,zP hK,zP hK];rw [hK] at hr;generalize rsM xs n S R va (wd o) 3=M,rsA xs n S R va (wd o) 3=AA at *
  have qF:FN 228 [.s (.sl 0 0 n),.s (.u AA),.s (.i (wd o)),.s (.u (x.getD A 0:Nat))] [⟨false,1,wsv M⟩] (. =⟨.tup [.s (.sl 1 0 n),.s (.bool true)],[],[⟨true,1,wsv (stM o M AA (x.getD A 0))⟩]⟩):=by
   by_cases vD:o=35
   .subst vD
    exact QjP M n AA (x.getD A 0) gH hn wA ha
   .have wF:wd o=1:=zN (by omega)
    rw [wF] at ha |-;unfold stM;rw [zN vD];exact QrH M n AA (x.getD A 0) gH hn wA ha
  have hss:=Qaa (stM o M AA (x.getD A 0));have qW:=QaN x pc c (w32 ((pc:Int)+4)) hx;have gC:=Qao (x) (w32 ((pc:Int)+4)) (c) hx hc;have fO:=Qal (x) (w32 ((pc:Int)+4)) (c);have gR:=Qag (x) (w32 ((pc:Int)+4)) (c);have fD:=Qah gC;have gpC3:=QaA (x) (w32 ((pc:Int)+4)) (c) hx;generalize wsv (stM o M AA (x.getD A 0))=XS,wsv M=XM,wsv xs=XX at *;generalize x.getD A 0=vA,x.getD B 0=vB,w32 m=mm,Qax (x) (w32 ((pc:Int)+4)) (c)=C3,Qax (x) (pc) (c)=CC at *;generalize w32 ((pc:Int)+4)=p4,wd o=wo at *;refine fnW Tryz.func188 ?_;(repeat' ((conv=>whnf);first|exact zi2|refine zj0 fun hb=>?_|refine QEO ?_|refine zq9 ?_|refine QEI ?_|refine zq1 ?_|refine QEM ?_|(refine QaD hr ?_)|(refine QaD qF ?_)|(refine zpu VH ?_)|refine zse ?_|refine zbb ?_ ?_))
  all_goals exact Qff
 .have fK:=Qef x pc c (rsK xs n S R va (wd o) 3) va hx hc gM
  rw [Qbk] at fK;rw [zN hK,zN hK,zN hK];have gC:=Qao (x) (c.getD 1 0) (trL pc c (rsK xs n S R va (wd o) 3) va) hx rfl;have fO:=Qal (x) (c.getD 1 0) (trL pc c (rsK xs n S R va (wd o) 3) va);have gR:=Qag (x) (c.getD 1 0) (trL pc c (rsK xs n S R va (wd o) 3) va);have fD:=Qah gC;have gpC3:=QaA (x) (c.getD 1 0) (trL pc c (rsK xs n S R va (wd o) 3) va) hx;generalize wsv (rsM xs n S R va (wd o) 3)=XM,rsA xs n S R va (wd o) 3=AA,wsv xs=XX,x.getD A 0=vA,x.getD B 0=vB,w32 m=mm,Qax (x) (c.getD 1 0) (trL pc c (rsK xs n S R va (wd o) 3) va)=C3,Qax (x) (pc) (c)=CC at *;generalize rsK xs n S R va (wd o) 3=K at *;generalize wd o=wo at *;refine fnW Tryz.func188 ?_;exact QDO
def nA (w:Nat):Nat:=w / 2^20%2^4
def nB (w:Nat):Nat:=w / 2^16%2^4
def nC (w:Nat):Nat:=(dC w).toNat
theorem QAS (w:Nat) (hw:ZU w) (h:dOk w=true):FN 115 [.s (.u w)] [] (. =⟨.tup [.agg (iv (dOp w) (dA w) (dB w) (dC w) (dM w)),.s (.bool true)],[],[]⟩):=by
 exact QuC
theorem QAR (w:Nat) (hw:ZU w) (h:dOk w=false):FN 115 [.s (.u w)] [] (. =⟨.tup [.agg (iv 0 0 0 0 0),.s (.bool false)],[],[]⟩):=by
 exact QuC
theorem QhV (w:Nat) (h:dOk w=true):dA w=(nA w:Nat)/\nA w<16/\dB w=(nB w:Nat)/\nB w<16/\dC w=(nC w:Nat)/\nC w<16/\(-32768<=dM w/\dM w<=65535)/\(dOp w=58->0<=dM w/\dM w<8) /\
  (1<=dOp w/\dOp w<=13\/16<=dOp w/\dOp w<=24\/32<=dOp w/\dOp w<=36\/40<=dOp w/\dOp w<=45\/dOp w=48\/dOp w=49\/56<=dOp w/\dOp w<=64):=by
 unfold dOk at h;rw [zba] at h;obtain ⟨h1,h2⟩:=h;unfold Qfw at h2;simp only [zba,zde] at h2;obtain ⟨⟨⟨⟨⟨_,_⟩,_⟩,h6⟩,h7⟩,h8⟩:=h2;have fF:0<=dC w:=by unfold dC;split<;>omega
 have YB:dC w<16:=by
  cases hu:QrY (dOp w) with
  | false=>unfold dC;rw [hu];simp
  | true =>
   rw [hu] at h6;unfold Qmf at h6;simp only [zba,zde] at h6;omega
 have hcls:1<=dOp w/\dOp w<=13\/16<=dOp w/\dOp w<=24\/32<=dOp w/\dOp w<=36\/40<=dOp w/\dOp w<=45\/dOp w=48\/dOp w=49\/56<=dOp w/\dOp w<=64:=by
  unfold QcP QrX at h1;simp only [Bool.or_eq_true,zde] at h1;omega
 refine ⟨rfl,Nat.mod_lt _ (by decide),rfl,Nat.mod_lt _ (by decide),(by unfold nC;omega),(by unfold nC;omega),?_,?_,hcls⟩
 .have qF: -32768<=QgS (dOp w):=by unfold QgS;split<;>omega
  have hhi:Qg5 (dOp w)<=65535:=by
                      unfold Qg5;repeat' split
                      all_goals omega
  omega
 .intro h58
  rw [h58] at h7 h8;have a:QgS 58=0:=rfl;have b:Qg5 58=7:=rfl;omega
structure Ex where
 (x:List Nat) (pc:Nat) (c:List Nat) (m:List Nat) (e:List SV)
def E0:List SV:= [.i 0,.i 0,.i 0,.u (0:Nat)]
def exS (x:List Nat) (pc:Nat) (c:List Nat) (xs:List Nat) (n:Nat):Ex :=
 if rsK xs n (c.getD 0 0) (c.getD 6 0) pc 4 1≠0 then ⟨x,c.getD 1 0,trL pc c (rsK xs n (c.getD 0 0) (c.getD 6 0) pc 4 1) pc,rsM xs n (c.getD 0 0) (c.getD 6 0) pc 4 1,E0⟩
 else if dOk (ftW xs n (c.getD 0 0) (c.getD 6 0) pc)=false then ⟨x,c.getD 1 0,trL pc c 1 (ftW xs n (c.getD 0 0) (c.getD 6 0) pc),rsM xs n (c.getD 0 0) (c.getD 6 0) pc 4 1,E0⟩
 else if 57<=dOp (ftW xs n (c.getD 0 0) (c.getD 6 0) pc)/\c.getD 0 0%2=0 then ⟨x,c.getD 1 0,trL pc c 2 (ftW xs n (c.getD 0 0) (c.getD 6 0) pc),rsM xs n (c.getD 0 0) (c.getD 6 0) pc 4 1,E0⟩
 else if 32<=dOp (ftW xs n (c.getD 0 0) (c.getD 6 0) pc)/\dOp (ftW xs n (c.getD 0 0) (c.getD 6 0) pc)<=34 then
  ⟨ldX x (rsM xs n (c.getD 0 0) (c.getD 6 0) pc 4 1) n (c.getD 0 0) (c.getD 6 0) (vaO x (nB (ftW xs n (c.getD 0 0) (c.getD 6 0) pc)) (dM (ftW xs n (c.getD 0 0) (c.getD 6 0) pc))) (dOp (ftW xs n (c.getD 0 0) (c.getD 6 0) pc)) (nA (ftW xs n (c.getD 0 0) (c.getD 6 0) pc)),
   trP pc c (rsK (rsM xs n (c.getD 0 0) (c.getD 6 0) pc 4 1) n (c.getD 0 0) (c.getD 6 0) (vaO x (nB (ftW xs n (c.getD 0 0) (c.getD 6 0) pc)) (dM (ftW xs n (c.getD 0 0) (c.getD 6 0) pc))) (wd (dOp (ftW xs n (c.getD 0 0) (c.getD 6 0) pc))) 2),
   trC pc c (rsK (rsM xs n (c.getD 0 0) (c.getD 6 0) pc 4 1) n (c.getD 0 0) (c.getD 6 0) (vaO x (nB (ftW xs n (c.getD 0 0) (c.getD 6 0) pc)) (dM (ftW xs n (c.getD 0 0) (c.getD 6 0) pc))) (wd (dOp (ftW xs n (c.getD 0 0) (c.getD 6 0) pc))) 2) (vaO x (nB (ftW xs n (c.getD 0 0) (c.getD 6 0) pc)) (dM (ftW xs n (c.getD 0 0) (c.getD 6 0) pc))),
   rsM (rsM xs n (c.getD 0 0) (c.getD 6 0) pc 4 1) n (c.getD 0 0) (c.getD 6 0) (vaO x (nB (ftW xs n (c.getD 0 0) (c.getD 6 0) pc)) (dM (ftW xs n (c.getD 0 0) (c.getD 6 0) pc))) (wd (dOp (ftW xs n (c.getD 0 0) (c.getD 6 0) pc))) 2,E0⟩
 else if 35<=dOp (ftW xs n (c.getD 0 0) (c.getD 6 0) pc)/\dOp (ftW xs n (c.getD 0 0) (c.getD 6 0) pc)<=36 then
  ⟨x,
   trP pc c (rsK (rsM xs n (c.getD 0 0) (c.getD 6 0) pc 4 1) n (c.getD 0 0) (c.getD 6 0) (vaO x (nB (ftW xs n (c.getD 0 0) (c.getD 6 0) pc)) (dM (ftW xs n (c.getD 0 0) (c.getD 6 0) pc))) (wd (dOp (ftW xs n (c.getD 0 0) (c.getD 6 0) pc))) 3),
   trC pc c (rsK (rsM xs n (c.getD 0 0) (c.getD 6 0) pc 4 1) n (c.getD 0 0) (c.getD 6 0) (vaO x (nB (ftW xs n (c.getD 0 0) (c.getD 6 0) pc)) (dM (ftW xs n (c.getD 0 0) (c.getD 6 0) pc))) (wd (dOp (ftW xs n (c.getD 0 0) (c.getD 6 0) pc))) 3) (vaO x (nB (ftW xs n (c.getD 0 0) (c.getD 6 0) pc)) (dM (ftW xs n (c.getD 0 0) (c.getD 6 0) pc))),
   stX (rsM xs n (c.getD 0 0) (c.getD 6 0) pc 4 1) n (c.getD 0 0) (c.getD 6 0) (vaO x (nB (ftW xs n (c.getD 0 0) (c.getD 6 0) pc)) (dM (ftW xs n (c.getD 0 0) (c.getD 6 0) pc))) (x.getD (nA (ftW xs n (c.getD 0 0) (c.getD 6 0) pc)) 0) (dOp (ftW xs n (c.getD 0 0) (c.getD 6 0) pc)),E0⟩
 else
  ⟨exX x pc c (dOp (ftW xs n (c.getD 0 0) (c.getD 6 0) pc)) (nA (ftW xs n (c.getD 0 0) (c.getD 6 0) pc)) (nB (ftW xs n (c.getD 0 0) (c.getD 6 0) pc)) (nC (ftW xs n (c.getD 0 0) (c.getD 6 0) pc)) (dM (ftW xs n (c.getD 0 0) (c.getD 6 0) pc)),
   exP x pc c (dOp (ftW xs n (c.getD 0 0) (c.getD 6 0) pc)) (nA (ftW xs n (c.getD 0 0) (c.getD 6 0) pc)) (nB (ftW xs n (c.getD 0 0) (c.getD 6 0) pc)) (dM (ftW xs n (c.getD 0 0) (c.getD 6 0) pc)),
   exC x pc c (dOp (ftW xs n (c.getD 0 0) (c.getD 6 0) pc)) (nA (ftW xs n (c.getD 0 0) (c.getD 6 0) pc)) (dM (ftW xs n (c.getD 0 0) (c.getD 6 0) pc)),
   rsM xs n (c.getD 0 0) (c.getD 6 0) pc 4 1,
   exE x (dOp (ftW xs n (c.getD 0 0) (c.getD 6 0) pc)) (nA (ftW xs n (c.getD 0 0) (c.getD 6 0) pc)) (dM (ftW xs n (c.getD 0 0) (c.getD 6 0) pc))⟩
theorem Qwi (x:List Nat) (pc:Nat) (c:List Nat) (o:Int) (A B C:Nat) (m:Int) (hx:x.length=16) (hc:c.length=8) (hY:ZL x) (gA:ZL c) (gQ:ZU pc) (hA:A<16) (hB:B<16) (hC:C<16) (hm:o=58->0<=m/\m<8) (gB: -32768<=m/\m<=65535) (ho:1<=o/\o<=13\/16<=o/\o<=24\/40<=o/\o<=45\/o=48\/o=49\/56<=o/\o<=64) :
  FN 189 [.agg (Qax x pc c),.agg (iv o A B C m)] [] (. =⟨.tup [.agg (Qax (exX x pc c o A B C m) (exP x pc c o A B m) (exC x pc c o A m)),.agg (exE x o A m)],[],[]⟩):=by
 by_cases h1:1<=o/\o<=13
 .exact Qs3 x pc c o A B C m hx hc hY gA gQ hA hB hC hm gB h1
 by_cases h2:16<=o/\o<=23
 .exact Qs4 x pc c o A B C m hx hc hY gA gQ hA hB hC hm gB h2
 by_cases h3:40<=o/\o<=45
 .cases h:Qc7 o (x.getD A 0) (x.getD B 0) with
  | true=>exact QkD x pc c o A B C m hx hc hY gA gQ hA hB hC hm gB ⟨h3,h⟩
  | false=>exact Qi7 x pc c o A B C m hx hc hY gA gQ hA hB hC hm gB ⟨h3,h⟩
 have e:o=24\/o=48\/o=49\/o=56\/o=57\/o=58\/o=59\/o=60\/o=61\/o=62\/o=63\/o=64:=by omega
 rcases e with h|h|h|h|h|h|h|h|h|h|h|h
 .exact QwX x pc c o A B C m hx hc hY gA gQ hA hB hC hm gB h
 .exact QwW x pc c o A B C m hx hc hY gA gQ hA hB hC hm gB h
 .exact Qs9 x pc c o A B C m hx hc hY gA gQ hA hB hC hm gB h
 .exact QpE x pc c o A B C m hx hc hY gA gQ hA hB hC hm gB h
 .exact Qs7 x pc c o A B C m hx hc hY gA gQ hA hB hC hm gB h
 .exact Qs5 x pc c o A B C m hx hc hY gA gQ hA hB hC hm gB h
 .exact Qs6 x pc c o A B C m hx hc hY gA gQ hA hB hC hm gB h
 .exact QA3 x pc c o A B C m hx hc hY gA gQ hA hB hC hm gB h
 .exact QwY x pc c o A B C m hx hc hY gA gQ hA hB hC hm gB h
 .exact QwZ x pc c o A B C m hx hc hY gA gQ hA hB hC hm gB h
 .exact QpF x pc c o A B C m hx hc hY gA gQ hA hB hC hm gB h
 .exact Qs8 x pc c o A B C m hx hc hY gA gQ hA hB hC hm gB h
theorem Qd4 (x:List Nat) (pc:Nat) (c:List Nat) (o:Int) (A B C:Nat) (m:Int):(exX x pc c o A B C m).length=x.length:=by
 unfold exX
 repeat' split
 all_goals simp only [Qay]
theorem QhW (x:List Nat) (pc:Nat) (c:List Nat) (o:Int) (A:Nat) (m:Int) (hc:c.length=8):(exC x pc c o A m).length=8:=by
 unfold exC;split
 .rfl
 .split
  .simpa using hc
  .split
   .rw [QgV];exact hc
   .exact hc
theorem QhX (x:List Nat) (o:Int) (A:Nat) (m:Int):Qaq (exE x o A m)=true/\Qas (exE x o A m)=true/\(exE x o A m).length=4:=by
 unfold exE
 repeat' split
 all_goals exact ⟨rfl,rfl,rfl⟩
theorem Qgs (x xs:List Nat) (n s r va:Nat) (o:Int) (A:Nat):(ldX x xs n s r va o A).length=x.length:=by
 unfold ldX;split
 .rw [Qay]
 .rfl
theorem Qfa (pc:Nat) (c:List Nat) (K:Int) (va:Nat) (hc:c.length=8):(trC pc c K va).length=8:=by
 unfold trC;split
 .exact hc
 .rfl
theorem QfJ (x:List Nat) (pc:Nat) (c:List Nat) (xs:List Nat) (n:Nat) (hx:x.length=16) (hc:c.length=8) (gM:ZL c) (gQ:ZU pc) (hl:xs.length=n) (hY:ZL xs) (hn:ZU n) (jK:ZL x) (Q:Ex) (hQ:exS x pc c xs n=Q) :
  FN 130 [.agg (Qax x pc c),.s (.sl 0 0 n)] [⟨false,1,wsv xs⟩]
   (. =⟨.tup [.agg (Qax Q.x Q.pc Q.c),.s (.sl 1 0 n),.agg Q.e],[],[⟨true,1,wsv Q.m⟩]⟩):=by
 have hf:=QoB x pc c xs n hx hc gM gQ hl hY hn;have hk:=Qjd x pc c hx hc (Qab gM 0);have yR:=QpX xs n (c.getD 0 0) (c.getD 6 0) pc hY;have hM:=Qc2 xs n (c.getD 0 0) (c.getD 6 0) pc 4 1 hY;have JR:(rsM xs n (c.getD 0 0) (c.getD 6 0) pc 4 1).length=n:=by rw [Qbh];exact hl
 have gK:=Qaa xs;have JE:=Qaa (rsM xs n (c.getD 0 0) (c.getD 6 0) pc 4 1);have gS:=Qao (x) (pc) (c) hx hc;have jG:=Qal (x) (pc) (c);have qL:=Qag (x) (pc) (c);have qR:=Qah gS;have gpCC:=QaA (x) (pc) (c) hx;unfold exS at hQ
 by_cases hK:rsK xs n (c.getD 0 0) (c.getD 6 0) pc 4 1=0
 case neg =>
  rw [zP hK] at hQ;subst hQ;have fK:=Qef x pc c (rsK xs n (c.getD 0 0) (c.getD 6 0) pc 4 1) pc hx hc gM;rw [Qbk] at fK;dsimp only [E0];have gC:=Qao (x) (c.getD 1 0) (trL pc c (rsK xs n (c.getD 0 0) (c.getD 6 0) pc 4 1) (pc)) hx rfl;have fO:=Qal (x) (c.getD 1 0) (trL pc c (rsK xs n (c.getD 0 0) (c.getD 6 0) pc 4 1) (pc));have gR:=Qag (x) (c.getD 1 0) (trL pc c (rsK xs n (c.getD 0 0) (c.getD 6 0) pc 4 1) (pc));have fD:=Qah gC;have gpC3:=QaA (x) (c.getD 1 0) (trL pc c (rsK xs n (c.getD 0 0) (c.getD 6 0) pc 4 1) (pc)) hx;generalize Qax (x) (c.getD 1 0) (trL pc c (rsK xs n (c.getD 0 0) (c.getD 6 0) pc 4 1) (pc))=C3 at *;generalize rsK xs n (c.getD 0 0) (c.getD 6 0) pc 4 1=K,ftW xs n (c.getD 0 0) (c.getD 6 0) pc=W,wsv (rsM xs n (c.getD 0 0) (c.getD 6 0) pc 4 1)=XM,wsv xs=XX,Qax (x) (pc) (c)=CC at *;refine fnW Tryz.func130 ?_;(repeat' ((conv=>whnf);first|exact zi2|refine zj0 fun hb=>?_|refine QvS ?_|refine zq4 ?_|refine zq1 ?_|refine QAj ?_|(refine QaD hf ?_)|(refine zpu fK ?_)|refine zse ?_|refine zbb ?_ ?_))
  all_goals exact Qff
 rw [zN (fun h=>h hK)] at hQ;rw [hK] at hf;generalize hS:c.getD 0 0=S,hR:c.getD 6 0=R at *;generalize hW:ftW xs n S R pc=W,hXM:rsM xs n S R pc 4 1=M at *;clear hK hW hXM
 cases hd:dOk W with
 | false =>
  rw [zP hd] at hQ;subst hQ;have jP:=QAR W yR hd;unfold iv at jP;have fK:=Qef x pc c 1 W hx hc gM;rw [Qbk] at fK;dsimp only [E0];have gC:=Qao (x) (c.getD 1 0) (trL pc c (1) (W)) hx rfl;have fO:=Qal (x) (c.getD 1 0) (trL pc c (1) (W));have gR:=Qag (x) (c.getD 1 0) (trL pc c (1) (W));have fD:=Qah gC;have gpC3:=QaA (x) (c.getD 1 0) (trL pc c (1) (W)) hx;generalize Qax (x) (c.getD 1 0) (trL pc c (1) (W))=C3,wsv M=XM,wsv xs=XX,Qax (x) (pc) (c)=CC at *;refine fnW Tryz.func130 ?_;(conv=>whnf);(repeat' ((first|exact zi2|refine zj0 fun hb=>?_|refine QvS ?_|refine zq4 ?_|refine zq1 ?_|(refine QaD hf ?_)|(refine zpu jP ?_)|(refine zpu fK ?_)|refine zse ?_|refine zbb ?_ ?_)<;>conv=>whnf))
  all_goals exact Qff
 | true =>
 rw [zN (by rw [hd];decide)] at hQ;have jP:=QAS W yR hd;obtain ⟨a1,a2,b1,b2,c1,c2,m1,m2,_⟩:=QhV W hd;rw [a1,b1,c1] at jP;have gI:=QqU (dOp W);generalize nA W=A,nB W=B,nC W=C,dM W=m,dOp W=o at *;clear hd a1 b1 c1
 by_cases hpv:57<=o/\S%2=0
 .rw [zP hpv] at hQ
  subst hQ;rw [show QgD o=true from zdt (by omega)] at gI;rw [hpv.2] at hk;have fK:=Qef x pc c 2 W hx hc gM;rw [Qbk] at fK;dsimp only [E0];unfold iv at jP;have gC:=Qao (x) (c.getD 1 0) (trL pc c (2) (W)) hx rfl;have fO:=Qal (x) (c.getD 1 0) (trL pc c (2) (W));have gR:=Qag (x) (c.getD 1 0) (trL pc c (2) (W));have fD:=Qah gC;have gpC3:=QaA (x) (c.getD 1 0) (trL pc c (2) (W)) hx;generalize Qax (x) (c.getD 1 0) (trL pc c (2) (W))=C3,wsv M=XM,wsv xs=XX,Qax (x) (pc) (c)=CC at *;refine fnW Tryz.func130 ?_;(repeat' ((conv=>whnf);first|exact zi2|refine zj0 fun hb=>?_|refine QvS ?_|refine zq4 ?_|refine zq1 ?_|(refine QaD hf ?_)|(refine zpu jP ?_)|(refine zpu gI ?_)|(refine zpu hk ?_)|(refine zpu fK ?_)|refine zse ?_|refine zbb ?_ ?_))
  all_goals exact Qff
 rw [zN hpv] at hQ;obtain ⟨bp,YA,qZ⟩:∃ bp,QgD o=bp/\(bp=true->S%2=1):=⟨_,rfl,fun h=>by unfold QgD at h;simp only [zde] at h;omega⟩;rw [YA] at gI;generalize S%2=S2 at *
 by_cases h32:32<=o/\o<=34
 .rw [zP h32] at hQ
  subst hQ;have jT:=QsI x pc c M n o A B C m hx hc gM gQ JR hM hn jK a2 b2 h32;rw [hS,hR] at jT;dsimp only [E0];have UI:=Qaa (rsM M n S R (vaO x B m) (wd o) 2);obtain rfl:bp=false:=Qsi;clear hk qZ hpv;have gC:=Qao (ldX x M n S R (vaO x B m) o A) (trP pc c (rsK M n S R (vaO x B m) (wd o) 2)) (trC pc c (rsK M n S R (vaO x B m) (wd o) 2) (vaO x B m)) (by rw [Qgs];exact hx) (Qfa _ _ _ _ hc);have fO:=Qal (ldX x M n S R (vaO x B m) o A) (trP pc c (rsK M n S R (vaO x B m) (wd o) 2)) (trC pc c (rsK M n S R (vaO x B m) (wd o) 2) (vaO x B m));have gR:=Qag (ldX x M n S R (vaO x B m) o A) (trP pc c (rsK M n S R (vaO x B m) (wd o) 2)) (trC pc c (rsK M n S R (vaO x B m) (wd o) 2) (vaO x B m));have fD:=Qah gC;have gpC3:=QaA (ldX x M n S R (vaO x B m) o A) (trP pc c (rsK M n S R (vaO x B m) (wd o) 2)) (trC pc c (rsK M n S R (vaO x B m) (wd o) 2) (vaO x B m)) (by rw [Qgs];exact hx);generalize Qax (ldX x M n S R (vaO x B m) o A) (trP pc c (rsK M n S R (vaO x B m) (wd o) 2)) (trC pc c (rsK M n S R (vaO x B m) (wd o) 2) (vaO x B m))=C3,wsv (rsM M n S R (vaO x B m) (wd o) 2)=XL,wsv M=XM,wsv xs=XX,Qax (x) (pc) (c)=CC at *;unfold iv at jP jT;have e:o=32\/o=33\/o=34:=by omega
  rcases e with rfl|rfl|rfl
  all_goals
   refine fnW Tryz.func130 ?_;exact QDP
 rw [zN h32] at hQ
 by_cases vD:35<=o/\o<=36
 .rw [zP vD] at hQ
  subst hQ;have jT:=QoQ x pc c M n o A B C m hx hc gM gQ JR hM hn jK a2 b2 vD;rw [hS,hR] at jT;dsimp only [E0];have UI:=Qaa (stX M n S R (vaO x B m) (x.getD A 0) o);obtain rfl:bp=false:=Qsi;clear hk qZ hpv;have gC:=Qao (x) (trP pc c (rsK M n S R (vaO x B m) (wd o) 3)) (trC pc c (rsK M n S R (vaO x B m) (wd o) 3) (vaO x B m)) hx (Qfa _ _ _ _ hc);have fO:=Qal (x) (trP pc c (rsK M n S R (vaO x B m) (wd o) 3)) (trC pc c (rsK M n S R (vaO x B m) (wd o) 3) (vaO x B m));have gR:=Qag (x) (trP pc c (rsK M n S R (vaO x B m) (wd o) 3)) (trC pc c (rsK M n S R (vaO x B m) (wd o) 3) (vaO x B m));have fD:=Qah gC;have gpC3:=QaA (x) (trP pc c (rsK M n S R (vaO x B m) (wd o) 3)) (trC pc c (rsK M n S R (vaO x B m) (wd o) 3) (vaO x B m)) hx;generalize Qax (x) (trP pc c (rsK M n S R (vaO x B m) (wd o) 3)) (trC pc c (rsK M n S R (vaO x B m) (wd o) 3) (vaO x B m))=C3,wsv (stX M n S R (vaO x B m) (x.getD A 0) o)=XL,wsv M=XM,wsv xs=XX,Qax (x) (pc) (c)=CC at *;unfold iv at jP jT;have e:o=35\/o=36:=by omega
  rcases e with rfl|rfl
  all_goals
   refine fnW Tryz.func130 ?_;exact QDP
 rw [zN vD] at hQ;subst hQ;have jT:=Qwi x pc c o A B C m hx hc jK gM gQ a2 b2 c2 m2 m1 (by omega);obtain ⟨_,ek,el⟩:=QhX x o A m;have gC:=Qao (exX x pc c o A B C m) (exP x pc c o A B m) (exC x pc c o A m) (by rw [Qd4];exact hx) (QhW x pc c o A m hc);have fO:=Qal (exX x pc c o A B C m) (exP x pc c o A B m) (exC x pc c o A m);have gR:=Qag (exX x pc c o A B C m) (exP x pc c o A B m) (exC x pc c o A m);have fD:=Qah gC;have gpC3:=QaA (exX x pc c o A B C m) (exP x pc c o A B m) (exC x pc c o A m) (by rw [Qd4];exact hx);have n1:¬ o=32:=by omega
 have n2:¬ o=33:=by omega
 have n3:¬ o=34:=by omega
 have n4:¬ o=35:=by omega
 have n5:¬ o=36:=by omega
 dsimp only;generalize Qax (exX x pc c o A B C m) (exP x pc c o A B m) (exC x pc c o A m)=C3,wsv M=XM,wsv xs=XX,exE x o A m=EE at *;have VI:∀ c:List SV,c.length=4->QaB c 0 EE=EE:=fun c hc=>Qcb (hc.trans el.symm)
 generalize Qax (x) (pc) (c)=CC at *;unfold iv at jP jT
 cases bp with
 | false =>
  clear hk qZ hpv;refine fnW Tryz.func130 ?_;(conv=>whnf);(repeat' ((first|exact zi2|refine zj0 fun hb=>?_|refine QHf ?_|refine QEH ?_|refine QEL ?_|(refine QaD hf ?_)|(refine zpu jP ?_)|(refine zpu gI ?_)|(refine zpu jT ?_)|refine zse ?_|refine zbb ?_ ?_)<;>conv=>whnf))
  all_goals exact Qff
 | true =>
  obtain rfl:S2=1:=qZ rfl;refine fnW Tryz.func130 ?_;(repeat' ((conv=>whnf);first|exact zi2|refine zj0 fun hb=>?_|refine QHf ?_|refine QEH ?_|refine QEL ?_|(refine QaD hf ?_)|(refine zpu jP ?_)|(refine zpu gI ?_)|(refine zpu hk ?_)|(refine zpu jT ?_)|refine zse ?_|refine zbb ?_ ?_))
  all_goals exact Qff
end Go.Proofs.YtflaceijiphfdaaGreat
