import Derived.Test.YtpgkkfajljekpabGreatQ13
set_option linter.unusedSimpArgs false
set_option linter.unusedVariables false
set_option maxHeartbeats 0
set_option maxRecDepth 100000
namespace Go.Proofs.YtpgkkfajljekpabGreat
open Go Go.RowKit
theorem QmX (o:Int) (a b:Nat) (ha:ZU a) (fX:ZU b):FN 253 [.s (.i o),.s (.u a),.s (.u b)] [] (. =⟨.a (.s (.bool (Qdk o a b))),[],[]⟩):=by
 refine fnW Tryz.func253 ?_;exact QzY
theorem Qai {l:List SV} (h:l.length=25):∀ c:List SV,c.length=25->QaC c 0 l=l:=fun c hc=>Qce (hc.trans h.symm)
theorem QhQ (x:List Nat) (pc:Nat) (c:List Nat) (r v:Nat) (hx:x.length=16) (hc:c.length=8) (hr:r<16):FN 251 [.agg (Qay x pc c),.s (.i r),.s (.u v)] [] (. =⟨.a (.agg (Qay (QaD x r v) pc c)),[],[]⟩):=by
 have hl:=Qar x pc c hx hc;have hs:=Qal x pc c;have hk:=Qah x pc c;have wi:=QDk r;have hw:=Qia x pc c r v hx hr;have hl2:=Qar (x.set r v) pc c (by simpa using hx) hc;have gO:=Qal (x.set r v) pc c;have wV:=Qai hl;have hz2:=Qai hl2;have jA:=Qah (x.set r v) pc c;unfold QaD
 by_cases h:r=0
 .rw [zP h]
  subst h;generalize Qay x pc c=C at *;refine fnW Tryz.func251 ?_;(repeat' ((conv=>whnf);first|exact zi2|refine zj0 fun hb=>?_|(apply Sd.mk; . exact ⟨hl,hk,rfl,(by show 0+C.length<=25;omega)⟩)|((with_reducible apply Vl.mk (α:=List SV)); . exact wV _ rfl)|(apply Sg.mk; . exact Qa7 C hl)|refine zse ?_|refine zbb ?_ ?_))
  all_goals exact zf_
 .rw [zN h]
  generalize Qay (x.set r v) pc c=C2,Qay x pc c=C at *;refine fnW Tryz.func251 ?_;(repeat' ((conv=>whnf);first|exact zi2|refine zj0 fun hb=>?_|(apply Sd.mk; . first|exact ⟨hl2,jA,rfl,(by show 0+C2.length<=25;omega)⟩|(show (0:Int)<=r/\(r:Int)<16;omega)|(refine ⟨rfl,rfl,rfl,?_⟩;show r+1<=C.length;omega))|((with_reducible apply Vl.mk (α:=List SV)); . first|with_reducible exact hw|exact hz2 _ rfl)|(apply Sg.mk; . exact Qa7 C2 hl2)|refine zse ?_|refine zbb ?_ ?_))
  all_goals exact zf_
theorem QtA (x:List Nat) (pc:Nat) (c:List Nat) (o:Int) (A B C:Nat) (m:Int) (hx:x.length=16) (hc:c.length=8) (hY:ZL x) (gA:ZL c) (gR:ZU pc) (hA:A<16) (hB:B<16) (hC:C<16) (hm:o=58->0<=m/\m<8) (gB: -32768<=m/\m<=65535) (ho:1<=o/\o<=13) :
  FN 208 [.agg (Qay x pc c),.agg (iv o A B C m)] [] (. =⟨.tup [.agg (Qay (exX x pc c o A B C m) (exP x pc c o A B m) (exC x pc c o A m)),.agg (exE x o A m)],[],[]⟩):=by
 have eX:exX x pc c o A B C m=QaD x A (Qbu o (x.getD B 0) (x.getD C 0)):=by unfold exX;rw [zP (by omega)]
 have eP:exP x pc c o A B m=w32 ((pc:Int)+4):=Qdh;have eC:exC x pc c o A m=c:=Qci;have eE:exE x o A m= [.i 0,.i 0,.i 0,.u (0:Nat)]:=Qd1;rw [eX,eP,eC,eE];have rA:=Qav x pc c A hx hA;have rB:=Qav x pc c B hx hB;have rC:=Qav x pc c C hx hC;have gp:=QaB x pc c hx;have qm:IntKind.u32.wrap m=((w32 m:Nat):Int):=Qau m;have q4:IntKind.u32.wrap ((pc:Int)+4)=((w32 ((pc:Int)+4):Nat):Int):=Qau _;have xA:=Qab hY A;have xB:=Qab hY B;have xC:=Qab hY C;have lm:=QaG m;have hl:=Qar x pc c hx hc;have hs:=Qal x pc c;have hk:=Qah x pc c;have wV:=Qai hl;obtain ⟨V,hV⟩:∃ V,Qbu o (x.getD B 0) (x.getD C 0)=V:=⟨_,rfl⟩;obtain ⟨PP,qQ⟩:∃ PP,w32 ((pc:Int)+4)=PP:=⟨_,rfl⟩;rw [hV,qQ];rw [qQ] at q4;have gY:=Qdn o (x.getD B 0) (x.getD C 0) xB (by first|exact xC|exact lm);rw [<- Qbi o (x.getD B 0) (x.getD C 0) xB (by first|exact xC|exact lm),hV] at gY;exact QIq
theorem QtB (x:List Nat) (pc:Nat) (c:List Nat) (o:Int) (A B C:Nat) (m:Int) (hx:x.length=16) (hc:c.length=8) (hY:ZL x) (gA:ZL c) (gR:ZU pc) (hA:A<16) (hB:B<16) (hC:C<16) (hm:o=58->0<=m/\m<8) (gB: -32768<=m/\m<=65535) (ho:16<=o/\o<=23) :
  FN 208 [.agg (Qay x pc c),.agg (iv o A B C m)] [] (. =⟨.tup [.agg (Qay (exX x pc c o A B C m) (exP x pc c o A B m) (exC x pc c o A m)),.agg (exE x o A m)],[],[]⟩):=by
 have eX:exX x pc c o A B C m=QaD x A (Qbu o (x.getD B 0) (w32 m)):=by unfold exX;rw [zN (by omega),zP (by omega)]
 have eP:exP x pc c o A B m=w32 ((pc:Int)+4):=Qdh;have eC:exC x pc c o A m=c:=Qci;have eE:exE x o A m= [.i 0,.i 0,.i 0,.u (0:Nat)]:=Qd1;rw [eX,eP,eC,eE];have rA:=Qav x pc c A hx hA;have rB:=Qav x pc c B hx hB;have rC:=Qav x pc c C hx hC;have gp:=QaB x pc c hx;have qm:IntKind.u32.wrap m=((w32 m:Nat):Int):=Qau m;have q4:IntKind.u32.wrap ((pc:Int)+4)=((w32 ((pc:Int)+4):Nat):Int):=Qau _;have xA:=Qab hY A;have xB:=Qab hY B;have xC:=Qab hY C;have lm:=QaG m;have hl:=Qar x pc c hx hc;have hs:=Qal x pc c;have hk:=Qah x pc c;have wV:=Qai hl;obtain ⟨V,hV⟩:∃ V,Qbu o (x.getD B 0) (w32 m)=V:=⟨_,rfl⟩;obtain ⟨PP,qQ⟩:∃ PP,w32 ((pc:Int)+4)=PP:=⟨_,rfl⟩;rw [hV,qQ];rw [qQ] at q4;have gY:=Qdn o (x.getD B 0) (w32 m) xB (by first|exact xC|exact lm);rw [<- Qbi o (x.getD B 0) (w32 m) xB (by first|exact xC|exact lm),hV] at gY;exact QIq
theorem Qxw (x:List Nat) (pc:Nat) (c:List Nat) (o:Int) (A B C:Nat) (m:Int) (hx:x.length=16) (hc:c.length=8) (hY:ZL x) (gA:ZL c) (gR:ZU pc) (hA:A<16) (hB:B<16) (hC:C<16) (hm:o=58->0<=m/\m<8) (gB: -32768<=m/\m<=65535) (ho:o=24) :
  FN 208 [.agg (Qay x pc c),.agg (iv o A B C m)] [] (. =⟨.tup [.agg (Qay (exX x pc c o A B C m) (exP x pc c o A B m) (exC x pc c o A m)),.agg (exE x o A m)],[],[]⟩):=by
 have eX:exX x pc c o A B C m=QaD x A (w32 ((w32 m:Nat)*65536)):=by unfold exX;rw [zN (by omega),zN (by omega),zP (by omega)]
 have eP:exP x pc c o A B m=w32 ((pc:Int)+4):=Qdh;have eC:exC x pc c o A m=c:=Qci;have eE:exE x o A m= [.i 0,.i 0,.i 0,.u (0:Nat)]:=Qd1;rw [eX,eP,eC,eE];have rA:=Qav x pc c A hx hA;have rB:=Qav x pc c B hx hB;have rC:=Qav x pc c C hx hC;have gp:=QaB x pc c hx;have qm:IntKind.u32.wrap m=((w32 m:Nat):Int):=Qau m;have q4:IntKind.u32.wrap ((pc:Int)+4)=((w32 ((pc:Int)+4):Nat):Int):=Qau _;have xA:=Qab hY A;have xB:=Qab hY B;have xC:=Qab hY C;have lm:=QaG m;have hl:=Qar x pc c hx hc;have hs:=Qal x pc c;have hk:=Qah x pc c;have wV:=Qai hl;obtain ⟨V,hV⟩:∃ V,w32 ((w32 m:Nat)*65536)=V:=⟨_,rfl⟩;obtain ⟨PP,qQ⟩:∃ PP,w32 ((pc:Int)+4)=PP:=⟨_,rfl⟩;rw [hV,qQ];rw [qQ] at q4;have q16:IntKind.u32.wrap (((w32 m:Nat):Int)*2^min (Int.toNat 16) IntKind.u32.bits)=(V:Int):=by rw [show (2:Int)^min (Int.toNat 16) IntKind.u32.bits=65536 from rfl,Qau,hV]
 have gN:=QhQ x pc c A V hx hc hA;have hl2:=Qar (QaD x A V) pc c (by rw [Qaz];exact hx) hc;have gO:=Qal (QaD x A V) pc c;have jA:=Qah (QaD x A V) pc c;have wN:QaC (Qay x pc c) 0 (Qay (QaD x A V) pc c)=Qay (QaD x A V) pc c:=Qce (by omega);have qZ:=QaP (QaD x A V) pc c PP (by rw [Qaz];exact hx);have jC:=Qar (QaD x A V) PP c (by rw [Qaz];exact hx) hc;have gZ:=Qal (QaD x A V) PP c;have yE:=Qah (QaD x A V) PP c;have yJ:=Qai jC;have gp2:=QaB (QaD x A V) pc c (by rw [Qaz];exact hx);generalize Qay (QaD x A V) PP c=C3,Qay (QaD x A V) pc c=C2 at *;clear eX eP eC eE hY gA hm;generalize x.getD A 0=vA,x.getD B 0=vB,x.getD C 0=vC at *;skip;generalize Qay x pc c=CC,w32 m=mm,w32 ((pc:Int)+4)=p4 at *;refine fnW Tryz.func208 ?_;(repeat' ((conv=>whnf);first|exact zi2|refine zj0 fun hb=>?_|refine QDu ?_|(with_reducible first|refine zv qm ?_|refine zv q4 ?_|refine zv q16 ?_)|refine QDt ?_|refine QzU ?_|refine zq5 ?_|(refine zpu gN ?_)|refine zse ?_|refine zbb ?_ ?_))
 all_goals exact zF_
theorem Qxv (x:List Nat) (pc:Nat) (c:List Nat) (o:Int) (A B C:Nat) (m:Int) (hx:x.length=16) (hc:c.length=8) (hY:ZL x) (gA:ZL c) (gR:ZU pc) (hA:A<16) (hB:B<16) (hC:C<16) (hm:o=58->0<=m/\m<8) (gB: -32768<=m/\m<=65535) (ho:o=48) :
  FN 208 [.agg (Qay x pc c),.agg (iv o A B C m)] [] (. =⟨.tup [.agg (Qay (exX x pc c o A B C m) (exP x pc c o A B m) (exC x pc c o A m)),.agg (exE x o A m)],[],[]⟩):=by
 have eX:exX x pc c o A B C m=QaD x A (w32 ((pc:Int)+4)):=Qvb;have eP:exP x pc c o A B m=w32 ((pc:Int)+w32 (4*(w32 m:Nat))):=by unfold exP;rw [zN (by omega),zP (by omega)]
 have eC:exC x pc c o A m=c:=Qci;have eE:exE x o A m= [.i 0,.i 0,.i 0,.u (0:Nat)]:=Qd1;rw [eX,eP,eC,eE];have rA:=Qav x pc c A hx hA;have rB:=Qav x pc c B hx hB;have rC:=Qav x pc c C hx hC;have gp:=QaB x pc c hx;have qm:IntKind.u32.wrap m=((w32 m:Nat):Int):=Qau m;have q4:IntKind.u32.wrap ((pc:Int)+4)=((w32 ((pc:Int)+4):Nat):Int):=Qau _;have xA:=Qab hY A;have xB:=Qab hY B;have xC:=Qab hY C;have lm:=QaG m;have hl:=Qar x pc c hx hc;have hs:=Qal x pc c;have hk:=Qah x pc c;have wV:=Qai hl;obtain ⟨V,hV⟩:∃ V,w32 ((pc:Int)+4)=V:=⟨_,rfl⟩;obtain ⟨PP,qQ⟩:∃ PP,w32 ((pc:Int)+w32 (4*(w32 m:Nat)))=PP:=⟨_,rfl⟩;rw [hV,qQ];rw [hV] at q4;have q4m:IntKind.u32.wrap (4*((w32 m:Nat):Int))=((w32 (4*(w32 m:Nat)):Nat):Int):=Qau _;have qT:IntKind.u32.wrap ((pc:Int)+((w32 (4*(w32 m:Nat)):Nat):Int))=(PP:Int):=by rw [Qau,qQ]
 have gN:=QhQ x pc c A V hx hc hA;have hl2:=Qar (QaD x A V) pc c (by rw [Qaz];exact hx) hc;have gO:=Qal (QaD x A V) pc c;have jA:=Qah (QaD x A V) pc c;have wN:QaC (Qay x pc c) 0 (Qay (QaD x A V) pc c)=Qay (QaD x A V) pc c:=Qce (by omega);have qZ:=QaP (QaD x A V) pc c PP (by rw [Qaz];exact hx);have jC:=Qar (QaD x A V) PP c (by rw [Qaz];exact hx) hc;have gZ:=Qal (QaD x A V) PP c;have yE:=Qah (QaD x A V) PP c;have yJ:=Qai jC;have gp2:=QaB (QaD x A V) pc c (by rw [Qaz];exact hx);generalize Qay (QaD x A V) PP c=C3,Qay (QaD x A V) pc c=C2 at *;clear eX eP eC eE hY gA hm;generalize x.getD A 0=vA,x.getD B 0=vB,x.getD C 0=vC,w32 (4*((w32 m:Nat):Int))=m4,Qay x pc c=CC at *;generalize w32 m=mm,w32 ((pc:Int)+4)=p4 at *;refine fnW Tryz.func208 ?_;(repeat' ((conv=>whnf);first|exact zi2|refine zj0 fun hb=>?_|((with_reducible apply Ge.mk (α:=SV)); . first|exact rA|exact rB|exact gp|exact gp2)|refine QFf ?_|refine QDt ?_|refine QzU ?_|refine zq5 ?_|(refine zpu gN ?_)|refine zse ?_|refine zbb ?_ ?_))
 all_goals exact zF_
theorem QtG (x:List Nat) (pc:Nat) (c:List Nat) (o:Int) (A B C:Nat) (m:Int) (hx:x.length=16) (hc:c.length=8) (hY:ZL x) (gA:ZL c) (gR:ZU pc) (hA:A<16) (hB:B<16) (hC:C<16) (hm:o=58->0<=m/\m<8) (gB: -32768<=m/\m<=65535) (ho:o=49) :
  FN 208 [.agg (Qay x pc c),.agg (iv o A B C m)] [] (. =⟨.tup [.agg (Qay (exX x pc c o A B C m) (exP x pc c o A B m) (exC x pc c o A m)),.agg (exE x o A m)],[],[]⟩):=by
 have eX:exX x pc c o A B C m=QaD x A (w32 ((pc:Int)+4)):=Qvb;have eP:exP x pc c o A B m=w32 ((x.getD B 0:Nat)+(w32 m:Nat)):=by unfold exP;rw [zN (by omega),zN (by omega),zP (by omega)]
 have eC:exC x pc c o A m=c:=Qci;have eE:exE x o A m= [.i 0,.i 0,.i 0,.u (0:Nat)]:=Qd1;rw [eX,eP,eC,eE];have rA:=Qav x pc c A hx hA;have rB:=Qav x pc c B hx hB;have rC:=Qav x pc c C hx hC;have gp:=QaB x pc c hx;have qm:IntKind.u32.wrap m=((w32 m:Nat):Int):=Qau m;have q4:IntKind.u32.wrap ((pc:Int)+4)=((w32 ((pc:Int)+4):Nat):Int):=Qau _;have xA:=Qab hY A;have xB:=Qab hY B;have xC:=Qab hY C;have lm:=QaG m;have hl:=Qar x pc c hx hc;have hs:=Qal x pc c;have hk:=Qah x pc c;have wV:=Qai hl;obtain ⟨V,hV⟩:∃ V,w32 ((pc:Int)+4)=V:=⟨_,rfl⟩;obtain ⟨PP,qQ⟩:∃ PP,w32 ((x.getD B 0:Nat)+(w32 m:Nat))=PP:=⟨_,rfl⟩;rw [hV,qQ];rw [hV] at q4;have qT:IntKind.u32.wrap (((x.getD B 0:Nat):Int)+((w32 m:Nat):Int))=(PP:Int):=by rw [Qau,qQ]
 have gN:=QhQ x pc c A V hx hc hA;have hl2:=Qar (QaD x A V) pc c (by rw [Qaz];exact hx) hc;have gO:=Qal (QaD x A V) pc c;have jA:=Qah (QaD x A V) pc c;have wN:QaC (Qay x pc c) 0 (Qay (QaD x A V) pc c)=Qay (QaD x A V) pc c:=Qce (by omega);have qZ:=QaP (QaD x A V) pc c PP (by rw [Qaz];exact hx);have jC:=Qar (QaD x A V) PP c (by rw [Qaz];exact hx) hc;have gZ:=Qal (QaD x A V) PP c;have yE:=Qah (QaD x A V) PP c;have yJ:=Qai jC;have gp2:=QaB (QaD x A V) pc c (by rw [Qaz];exact hx);generalize Qay (QaD x A V) PP c=C3,Qay (QaD x A V) pc c=C2 at *;clear eX eP eC eE hY gA hm;generalize x.getD A 0=vA,x.getD B 0=vB,x.getD C 0=vC at *;skip;generalize Qay x pc c=CC,w32 m=mm,w32 ((pc:Int)+4)=p4 at *;refine fnW Tryz.func208 ?_;(repeat' ((conv=>whnf);first|exact zi2|refine zj0 fun hb=>?_|refine QDu ?_|(with_reducible first|refine zv qm ?_|refine zv q4 ?_|refine zv qT ?_)|refine QDt ?_|refine QzU ?_|refine zq5 ?_|(refine zpu gN ?_)|refine zse ?_|refine zbb ?_ ?_))
 all_goals exact zF_
theorem QtC (x:List Nat) (pc:Nat) (c:List Nat) (o:Int) (A B C:Nat) (m:Int) (hx:x.length=16) (hc:c.length=8) (hY:ZL x) (gA:ZL c) (gR:ZU pc) (hA:A<16) (hB:B<16) (hC:C<16) (hm:o=58->0<=m/\m<8) (gB: -32768<=m/\m<=65535) (ho:o=58) :
  FN 208 [.agg (Qay x pc c),.agg (iv o A B C m)] [] (. =⟨.tup [.agg (Qay (exX x pc c o A B C m) (exP x pc c o A B m) (exC x pc c o A m)),.agg (exE x o A m)],[],[]⟩):=by
 have eX:exX x pc c o A B C m=QaD x A (c.getD m.toNat 0):=QD8;have eP:exP x pc c o A B m=w32 ((pc:Int)+4):=Qdh;have eC:exC x pc c o A m=c:=Qci;have eE:exE x o A m= [.i 0,.i 0,.i 0,.u (0:Nat)]:=Qd1;rw [eX,eP,eC,eE];have rA:=Qav x pc c A hx hA;have rB:=Qav x pc c B hx hB;have rC:=Qav x pc c C hx hC;have gp:=QaB x pc c hx;have qm:IntKind.u32.wrap m=((w32 m:Nat):Int):=Qau m;have q4:IntKind.u32.wrap ((pc:Int)+4)=((w32 ((pc:Int)+4):Nat):Int):=Qau _;have xA:=Qab hY A;have xB:=Qab hY B;have xC:=Qab hY C;have lm:=QaG m;have hl:=Qar x pc c hx hc;have hs:=Qal x pc c;have hk:=Qah x pc c;have wV:=Qai hl;obtain ⟨V,hV⟩:∃ V,c.getD m.toNat 0=V:=⟨_,rfl⟩;obtain ⟨PP,qQ⟩:∃ PP,w32 ((pc:Int)+4)=PP:=⟨_,rfl⟩;rw [hV,qQ];rw [qQ] at q4;have hm8:=hm ho;have rM:=Qdu x pc c m.toNat hx hc (by omega);rw [hV] at rM;have gN:=QhQ x pc c A V hx hc hA;have hl2:=Qar (QaD x A V) pc c (by rw [Qaz];exact hx) hc;have gO:=Qal (QaD x A V) pc c;have jA:=Qah (QaD x A V) pc c;have wN:QaC (Qay x pc c) 0 (Qay (QaD x A V) pc c)=Qay (QaD x A V) pc c:=Qce (by omega);have qZ:=QaP (QaD x A V) pc c PP (by rw [Qaz];exact hx);have jC:=Qar (QaD x A V) PP c (by rw [Qaz];exact hx) hc;have gZ:=Qal (QaD x A V) PP c;have yE:=Qah (QaD x A V) PP c;have yJ:=Qai jC;have gp2:=QaB (QaD x A V) pc c (by rw [Qaz];exact hx);generalize Qay (QaD x A V) PP c=C3,Qay (QaD x A V) pc c=C2 at *;clear eX eP eC eE hY gA hm;generalize x.getD A 0=vA,x.getD B 0=vB,x.getD C 0=vC at *;skip;generalize Qay x pc c=CC,w32 m=mm,w32 ((pc:Int)+4)=p4 at *;refine fnW Tryz.func208 ?_;(repeat' ((conv=>whnf);first|exact zi2|refine zj0 fun hb=>?_|((with_reducible apply Ge.mk (α:=SV)); . first|exact rA|exact rB|exact gp|exact rM)|refine QzV ?_|refine QDt ?_|refine QzU ?_|(apply Sd.mk; . first|exact ⟨jC,yE,rfl,(by show 0+C3.length<=25;omega)⟩|exact ⟨hl2,jA,rfl,(by show 0+C2.length<=CC.length;omega)⟩|(refine ⟨rfl,rfl,rfl,?_⟩;show 16+1<=C2.length;omega)|(show (0:Int)<=A/\(A:Int)<16;omega)|(show (0:Int)<=B/\(B:Int)<16;omega)|(show (0:Int)<=m/\m<(8:Int);omega))|(refine zpu gN ?_)|refine zse ?_|refine zbb ?_ ?_))
 all_goals exact zF_
theorem Qk5 (x:List Nat) (pc:Nat) (c:List Nat) (o:Int) (A B C:Nat) (m:Int) (hx:x.length=16) (hc:c.length=8) (hY:ZL x) (gA:ZL c) (gR:ZU pc) (hA:A<16) (hB:B<16) (hC:C<16) (hm:o=58->0<=m/\m<8) (gB: -32768<=m/\m<=65535) (ho:(40<=o/\o<=45)/\Qdk o (x.getD A 0) (x.getD B 0)=true) :
  FN 208 [.agg (Qay x pc c),.agg (iv o A B C m)] [] (. =⟨.tup [.agg (Qay (exX x pc c o A B C m) (exP x pc c o A B m) (exC x pc c o A m)),.agg (exE x o A m)],[],[]⟩):=by
 have eX:exX x pc c o A B C m=x:=QcO;have eP:exP x pc c o A B m=w32 ((pc:Int)+w32 (4*(w32 m:Nat))):=Qvi;have eC:exC x pc c o A m=c:=Qci;have eE:exE x o A m= [.i 0,.i 0,.i 0,.u (0:Nat)]:=Qd1;rw [eX,eP,eC,eE];have rA:=Qav x pc c A hx hA;have rB:=Qav x pc c B hx hB;have rC:=Qav x pc c C hx hC;have gp:=QaB x pc c hx;have qm:IntKind.u32.wrap m=((w32 m:Nat):Int):=Qau m;have q4:IntKind.u32.wrap ((pc:Int)+4)=((w32 ((pc:Int)+4):Nat):Int):=Qau _;have xA:=Qab hY A;have xB:=Qab hY B;have xC:=Qab hY C;have lm:=QaG m;have hl:=Qar x pc c hx hc;have hs:=Qal x pc c;have hk:=Qah x pc c;have wV:=Qai hl;obtain ⟨PP,qQ⟩:∃ PP,w32 ((pc:Int)+w32 (4*(w32 m:Nat)))=PP:=⟨_,rfl⟩;rw [qQ];have jT:=QmX o (x.getD A 0) (x.getD B 0) xA xB;have q4m:IntKind.u32.wrap (4*((w32 m:Nat):Int))=((w32 (4*(w32 m:Nat)):Nat):Int):=Qau _;rw [ho.2] at jT;have qT:IntKind.u32.wrap ((pc:Int)+((w32 (4*(w32 m:Nat)):Nat):Int))=(PP:Int):=by rw [Qau,qQ]
 replace ho:=ho.1;have qZ:=QaP x pc c PP hx;have jC:=Qar x PP c hx hc;have gZ:=Qal x PP c;have yE:=Qah x PP c;have yJ:=Qai jC;generalize Qay x PP c=C3 at *;clear eX eP eC eE hY gA hm;generalize x.getD A 0=vA,x.getD B 0=vB,x.getD C 0=vC,w32 (4*((w32 m:Nat):Int))=m4,Qay x pc c=CC at *;generalize w32 m=mm,w32 ((pc:Int)+4)=p4 at *;refine fnW Tryz.func208 ?_;(repeat' ((conv=>whnf);first|exact zi2|refine zj0 fun hb=>?_|refine QDu ?_|refine QFf ?_|refine QDq ?_|(apply Sg.mk; . exact Qa7 C3 jC)|refine QHZ ?_|(refine zpu jT ?_)|refine zse ?_|refine zbb ?_ ?_))
 all_goals exact zF_
theorem Qjs (x:List Nat) (pc:Nat) (c:List Nat) (o:Int) (A B C:Nat) (m:Int) (hx:x.length=16) (hc:c.length=8) (hY:ZL x) (gA:ZL c) (gR:ZU pc) (hA:A<16) (hB:B<16) (hC:C<16) (hm:o=58->0<=m/\m<8) (gB: -32768<=m/\m<=65535) (ho:(40<=o/\o<=45)/\Qdk o (x.getD A 0) (x.getD B 0)=false) :
  FN 208 [.agg (Qay x pc c),.agg (iv o A B C m)] [] (. =⟨.tup [.agg (Qay (exX x pc c o A B C m) (exP x pc c o A B m) (exC x pc c o A m)),.agg (exE x o A m)],[],[]⟩):=by
 have eX:exX x pc c o A B C m=x:=QcO;have eP:exP x pc c o A B m=w32 ((pc:Int)+4):=Qvi;have eC:exC x pc c o A m=c:=Qci;have eE:exE x o A m= [.i 0,.i 0,.i 0,.u (0:Nat)]:=Qd1;rw [eX,eP,eC,eE];have rA:=Qav x pc c A hx hA;have rB:=Qav x pc c B hx hB;have rC:=Qav x pc c C hx hC;have gp:=QaB x pc c hx;have qm:IntKind.u32.wrap m=((w32 m:Nat):Int):=Qau m;have q4:IntKind.u32.wrap ((pc:Int)+4)=((w32 ((pc:Int)+4):Nat):Int):=Qau _;have xA:=Qab hY A;have xB:=Qab hY B;have xC:=Qab hY C;have lm:=QaG m;have hl:=Qar x pc c hx hc;have hs:=Qal x pc c;have hk:=Qah x pc c;have wV:=Qai hl;obtain ⟨PP,qQ⟩:∃ PP,w32 ((pc:Int)+4)=PP:=⟨_,rfl⟩;rw [qQ];rw [qQ] at q4;have jT:=QmX o (x.getD A 0) (x.getD B 0) xA xB;have q4m:IntKind.u32.wrap (4*((w32 m:Nat):Int))=((w32 (4*(w32 m:Nat)):Nat):Int):=Qau _;rw [ho.2] at jT;replace ho:=ho.1;have qZ:=QaP x pc c PP hx;have jC:=Qar x PP c hx hc;have gZ:=Qal x PP c;have yE:=Qah x PP c;have yJ:=Qai jC;generalize Qay x PP c=C3 at *;clear eX eP eC eE hY gA hm;generalize x.getD A 0=vA,x.getD B 0=vB,x.getD C 0=vC,w32 (4*((w32 m:Nat):Int))=m4,Qay x pc c=CC at *;generalize w32 m=mm,w32 ((pc:Int)+4)=p4 at *;refine fnW Tryz.func208 ?_;(repeat' ((conv=>whnf);first|exact zi2|refine zj0 fun hb=>?_|refine QDu ?_|refine QzV ?_|refine QDq ?_|(apply Sg.mk; . exact Qa7 C3 jC)|refine QHZ ?_|(refine zpu jT ?_)|refine zse ?_|refine zbb ?_ ?_))
 all_goals exact zF_
theorem Qp9 (x:List Nat) (pc:Nat) (c:List Nat) (o:Int) (A B C:Nat) (m:Int) (hx:x.length=16) (hc:c.length=8) (hY:ZL x) (gA:ZL c) (gR:ZU pc) (hA:A<16) (hB:B<16) (hC:C<16) (hm:o=58->0<=m/\m<8) (gB: -32768<=m/\m<=65535) (ho:o=56) :
  FN 208 [.agg (Qay x pc c),.agg (iv o A B C m)] [] (. =⟨.tup [.agg (Qay (exX x pc c o A B C m) (exP x pc c o A B m) (exC x pc c o A m)),.agg (exE x o A m)],[],[]⟩):=by
 have eX:exX x pc c o A B C m=x:=QcO;have eP:exP x pc c o A B m=c.getD 1 0:=QEe;have eC:exC x pc c o A m=trL pc c 7 0:=by unfold exC;rw [zP (by omega)]
 have eE:exE x o A m= [.i 0,.i 0,.i 0,.u (0:Nat)]:=Qd1;rw [eX,eP,eC,eE];have rA:=Qav x pc c A hx hA;have rB:=Qav x pc c B hx hB;have rC:=Qav x pc c C hx hC;have gp:=QaB x pc c hx;have qm:IntKind.u32.wrap m=((w32 m:Nat):Int):=Qau m;have q4:IntKind.u32.wrap ((pc:Int)+4)=((w32 ((pc:Int)+4):Nat):Int):=Qau _;have xA:=Qab hY A;have xB:=Qab hY B;have xC:=Qab hY C;have lm:=QaG m;have hl:=Qar x pc c hx hc;have hs:=Qal x pc c;have hk:=Qah x pc c;have wV:=Qai hl;have fW:=Qes x pc c 7 0 hx hc gA;rw [Qbn] at fW;have gZ:=Qal x (c.getD 1 0) (trL pc c 7 0);have jC:=Qar x (c.getD 1 0) (trL pc c 7 0) hx rfl;have yE:=Qah x (c.getD 1 0) (trL pc c 7 0);have yJ:=Qai jC;generalize Qay x (c.getD 1 0) (trL pc c 7 0)=C3 at *;exact QDz
theorem QtE (x:List Nat) (pc:Nat) (c:List Nat) (o:Int) (A B C:Nat) (m:Int) (hx:x.length=16) (hc:c.length=8) (hY:ZL x) (gA:ZL c) (gR:ZU pc) (hA:A<16) (hB:B<16) (hC:C<16) (hm:o=58->0<=m/\m<8) (gB: -32768<=m/\m<=65535) (ho:o=57) :
  FN 208 [.agg (Qay x pc c),.agg (iv o A B C m)] [] (. =⟨.tup [.agg (Qay (exX x pc c o A B C m) (exP x pc c o A B m) (exC x pc c o A m)),.agg (exE x o A m)],[],[]⟩):=by
 have eX:exX x pc c o A B C m=x:=QcO;have eP:exP x pc c o A B m=c.getD 2 0:=QD9;have eC:exC x pc c o A m=c.set 0 (QgZ (c.getD 0 0)):=by unfold exC;rw [zN (by omega),zP (by omega)]
 have eE:exE x o A m= [.i 0,.i 0,.i 0,.u (0:Nat)]:=Qd1;rw [eX,eP,eC,eE];have rA:=Qav x pc c A hx hA;have rB:=Qav x pc c B hx hB;have rC:=Qav x pc c C hx hC;have gp:=QaB x pc c hx;have qm:IntKind.u32.wrap m=((w32 m:Nat):Int):=Qau m;have q4:IntKind.u32.wrap ((pc:Int)+4)=((w32 ((pc:Int)+4):Nat):Int):=Qau _;have xA:=Qab hY A;have xB:=Qab hY B;have xC:=Qab hY C;have lm:=QaG m;have hl:=Qar x pc c hx hc;have hs:=Qal x pc c;have hk:=Qah x pc c;have wV:=Qai hl;have fW:=QCH x pc c hx hc gA;unfold QE4 at fW;have gZ:=Qal x (c.getD 2 0) (c.set 0 (QgZ (c.getD 0 0)));have jC:=Qar x (c.getD 2 0) (c.set 0 (QgZ (c.getD 0 0))) hx (by simpa using hc);have yE:=Qah x (c.getD 2 0) (c.set 0 (QgZ (c.getD 0 0)));have yJ:=Qai jC;generalize Qay x (c.getD 2 0) (c.set 0 (QgZ (c.getD 0 0)))=C3 at *;exact QDz
theorem QtD (x:List Nat) (pc:Nat) (c:List Nat) (o:Int) (A B C:Nat) (m:Int) (hx:x.length=16) (hc:c.length=8) (hY:ZL x) (gA:ZL c) (gR:ZU pc) (hA:A<16) (hB:B<16) (hC:C<16) (hm:o=58->0<=m/\m<8) (gB: -32768<=m/\m<=65535) (ho:o=59) :
  FN 208 [.agg (Qay x pc c),.agg (iv o A B C m)] [] (. =⟨.tup [.agg (Qay (exX x pc c o A B C m) (exP x pc c o A B m) (exC x pc c o A m)),.agg (exE x o A m)],[],[]⟩):=by
 have eX:exX x pc c o A B C m=x:=QcO;have eP:exP x pc c o A B m=w32 ((pc:Int)+4):=Qdh;have eC:exC x pc c o A m=wrL c m (x.getD A 0):=by unfold exC;rw [zN (by omega),zN (by omega),zP (by omega)]
 have eE:exE x o A m= [.i 0,.i 0,.i 0,.u (0:Nat)]:=Qd1;rw [eX,eP,eC,eE];have rA:=Qav x pc c A hx hA;have rB:=Qav x pc c B hx hB;have rC:=Qav x pc c C hx hC;have gp:=QaB x pc c hx;have qm:IntKind.u32.wrap m=((w32 m:Nat):Int):=Qau m;have q4:IntKind.u32.wrap ((pc:Int)+4)=((w32 ((pc:Int)+4):Nat):Int):=Qau _;have xA:=Qab hY A;have xB:=Qab hY B;have xC:=Qab hY C;have lm:=QaG m;have hl:=Qar x pc c hx hc;have hs:=Qal x pc c;have hk:=Qah x pc c;have wV:=Qai hl;have gN:=Qu7 x pc c m (x.getD A 0) hx hc xA;rw [Qwq] at gN;have hl2:=Qar x pc (wrL c m (x.getD A 0)) hx (by rw [Qhd];exact hc);have gO:=Qal x pc (wrL c m (x.getD A 0));have jA:=Qah x pc (wrL c m (x.getD A 0));have wN:QaC (Qay x pc c) 0 (Qay x pc (wrL c m (x.getD A 0)))=Qay x pc (wrL c m (x.getD A 0)):=Qce (by omega);have qZ:=QaP x pc (wrL c m (x.getD A 0)) (w32 ((pc:Int)+4)) hx;have jC:=Qar x (w32 ((pc:Int)+4)) (wrL c m (x.getD A 0)) hx (by rw [Qhd];exact hc);have gZ:=Qal x (w32 ((pc:Int)+4)) (wrL c m (x.getD A 0));have yE:=Qah x (w32 ((pc:Int)+4)) (wrL c m (x.getD A 0));have yJ:=Qai jC;have gp2:=QaB x pc (wrL c m (x.getD A 0)) hx;generalize Qay x (w32 ((pc:Int)+4)) (wrL c m (x.getD A 0))=C3,Qay x pc (wrL c m (x.getD A 0))=C2 at *;clear eX eP eC eE hY gA hm;generalize x.getD A 0=vA,x.getD B 0=vB,x.getD C 0=vC at *;skip;generalize Qay x pc c=CC,w32 m=mm,w32 ((pc:Int)+4)=p4 at *;refine fnW Tryz.func208 ?_;(repeat' ((conv=>whnf);first|exact zi2|refine zj0 fun hb=>?_|refine QDu ?_|(with_reducible first|refine zv qm ?_|refine zv q4 ?_|refine zv (Qb4 (by omega) (by omega)) ?_)|refine QDt ?_|refine QzU ?_|refine zq5 ?_|(refine zpu gN ?_)|refine zse ?_|refine zbb ?_ ?_))
 all_goals exact zF_
theorem QBC (x:List Nat) (pc:Nat) (c:List Nat) (o:Int) (A B C:Nat) (m:Int) (hx:x.length=16) (hc:c.length=8) (hY:ZL x) (gA:ZL c) (gR:ZU pc) (hA:A<16) (hB:B<16) (hC:C<16) (hm:o=58->0<=m/\m<8) (gB: -32768<=m/\m<=65535) (ho:o=60) :
  FN 208 [.agg (Qay x pc c),.agg (iv o A B C m)] [] (. =⟨.tup [.agg (Qay (exX x pc c o A B C m) (exP x pc c o A B m) (exC x pc c o A m)),.agg (exE x o A m)],[],[]⟩):=by
 have eX:exX x pc c o A B C m=x:=QcO;have eP:exP x pc c o A B m=w32 ((pc:Int)+4):=Qdh;have eC:exC x pc c o A m=c:=Qci;have eE:exE x o A m= [.i 1,.i m,.i (A:Nat),.u (0:Nat)]:=by unfold exE;rw [zP (by omega)]
 exact QDO
theorem Qxx (x:List Nat) (pc:Nat) (c:List Nat) (o:Int) (A B C:Nat) (m:Int) (hx:x.length=16) (hc:c.length=8) (hY:ZL x) (gA:ZL c) (gR:ZU pc) (hA:A<16) (hB:B<16) (hC:C<16) (hm:o=58->0<=m/\m<8) (gB: -32768<=m/\m<=65535) (ho:o=61) :
  FN 208 [.agg (Qay x pc c),.agg (iv o A B C m)] [] (. =⟨.tup [.agg (Qay (exX x pc c o A B C m) (exP x pc c o A B m) (exC x pc c o A m)),.agg (exE x o A m)],[],[]⟩):=by
 have eX:exX x pc c o A B C m=x:=QcO;have eP:exP x pc c o A B m=w32 ((pc:Int)+4):=Qdh;have eC:exC x pc c o A m=c:=Qci;have eE:exE x o A m= [.i 2,.i m,.i 0,.u (x.getD A 0:Nat)]:=by unfold exE;rw [zN (by omega),zP (by omega)]
 exact QDO
theorem Qxy (x:List Nat) (pc:Nat) (c:List Nat) (o:Int) (A B C:Nat) (m:Int) (hx:x.length=16) (hc:c.length=8) (hY:ZL x) (gA:ZL c) (gR:ZU pc) (hA:A<16) (hB:B<16) (hC:C<16) (hm:o=58->0<=m/\m<8) (gB: -32768<=m/\m<=65535) (ho:o=62) :
  FN 208 [.agg (Qay x pc c),.agg (iv o A B C m)] [] (. =⟨.tup [.agg (Qay (exX x pc c o A B C m) (exP x pc c o A B m) (exC x pc c o A m)),.agg (exE x o A m)],[],[]⟩):=by
 have eX:exX x pc c o A B C m=x:=QcO;have eP:exP x pc c o A B m=w32 ((pc:Int)+4):=Qdh;have eC:exC x pc c o A m=c:=Qci;have eE:exE x o A m= [.i 3,.i 0,.i 0,.u (0:Nat)]:=by unfold exE;rw [zN (by omega),zN (by omega),zP (by omega)]
 exact QDO
theorem Qqa (x:List Nat) (pc:Nat) (c:List Nat) (o:Int) (A B C:Nat) (m:Int) (hx:x.length=16) (hc:c.length=8) (hY:ZL x) (gA:ZL c) (gR:ZU pc) (hA:A<16) (hB:B<16) (hC:C<16) (hm:o=58->0<=m/\m<8) (gB: -32768<=m/\m<=65535) (ho:o=63) :
  FN 208 [.agg (Qay x pc c),.agg (iv o A B C m)] [] (. =⟨.tup [.agg (Qay (exX x pc c o A B C m) (exP x pc c o A B m) (exC x pc c o A m)),.agg (exE x o A m)],[],[]⟩):=by
 have eX:exX x pc c o A B C m=x:=QcO;have eP:exP x pc c o A B m=w32 ((pc:Int)+4):=Qdh;have eC:exC x pc c o A m=c:=Qci;have eE:exE x o A m= [.i 5,.i 0,.i 0,.u (0:Nat)]:=QEf;exact QDO
theorem QtF (x:List Nat) (pc:Nat) (c:List Nat) (o:Int) (A B C:Nat) (m:Int) (hx:x.length=16) (hc:c.length=8) (hY:ZL x) (gA:ZL c) (gR:ZU pc) (hA:A<16) (hB:B<16) (hC:C<16) (hm:o=58->0<=m/\m<8) (gB: -32768<=m/\m<=65535) (ho:o=64) :
  FN 208 [.agg (Qay x pc c),.agg (iv o A B C m)] [] (. =⟨.tup [.agg (Qay (exX x pc c o A B C m) (exP x pc c o A B m) (exC x pc c o A m)),.agg (exE x o A m)],[],[]⟩):=by
 have eX:exX x pc c o A B C m=x:=QcO;have eP:exP x pc c o A B m=w32 ((pc:Int)+4):=Qdh;have eC:exC x pc c o A m=c:=Qci;have eE:exE x o A m= [.i 4,.i 0,.i 0,.u (0:Nat)]:=QEa;exact QDO
theorem QhM {xs:List Nat} {n s r va:Nat} {sz ac:Int} (h:rsK xs n s r va sz ac=0):rsO xs n s r va sz ac=true:=by
 unfold rsK at h;split at h
 .assumption
 .split at h
  .omega
  .split at h
   .unfold Qcv at h;split at h;omega;split at h<;>omega
   .omega
theorem QhL {xs:List Nat} {n s r va:Nat} {sz ac:Int} (h:rsO xs n s r va sz ac=true) (gX:ZU va):acB sz n (rsA xs n s r va sz ac)=true/\rsA xs n s r va sz ac<4294967296:=by
 have h0:=h;unfold rsO at h;simp only [zba,zde] at h;obtain ⟨⟨⟨_,h2⟩,_⟩,h4⟩:=h;unfold rsA;rw [h0,zP rfl]
 cases hp:Qdf s with
 | false =>
  rw [hp,zN (by decide)] at h4;rw [zN (by decide)];exact ⟨h4,gX⟩
 | true =>
  rw [hp,zP rfl] at h4;rw [zP rfl];unfold Qbo at h4;simp only [zba,zde] at h4;have hm:=QaT n;have hf:=h4.2;unfold szB at h2;simp only [zde] at h2;generalize frW (QaR xs r va)=f at *;refine ⟨?_,by omega⟩;unfold acB;rcases h2 with rfl|rfl
  .rw [zN (by decide)]
   unfold ld1;exact zdt (by omega)
  .rw [zP rfl]
   unfold ld4;rw [zdt (by omega),zdt (by omega)];rfl
def ftW (xs:List Nat) (n s r pc:Nat):Nat:=if rsK xs n s r pc 4 1=0 then (rsM xs n s r pc 4 1).getD (rsA xs n s r pc 4 1 / 4) 0 else 0
theorem Qqt (xs:List Nat) (n s r pc:Nat) (hY:ZL xs):ftW xs n s r pc<4294967296:=by
 unfold ftW;split
 .exact Qab (Qc8 xs n s r pc 4 1 hY) _
 .decide
theorem Qo2 (x:List Nat) (pc:Nat) (c:List Nat) (xs:List Nat) (n:Nat) (hx:x.length=16) (hc:c.length=8) (gK:ZL c) (gR:ZU pc) (hl:xs.length=n) (hY:ZL xs) (hn:ZU n) :
  FN 204 [.agg (Qay x pc c),.s (.sl 0 0 n)] [⟨false,1,wsv xs⟩]
   (. =⟨.tup [.s (.u (ftW xs n (c.getD 0 0) (c.getD 6 0) pc:Nat)),.s (.sl 1 0 n),.s (.i (rsK xs n (c.getD 0 0) (c.getD 6 0) pc 4 1))],[],[⟨true,1,wsv (rsM xs n (c.getD 0 0) (c.getD 6 0) pc 4 1)⟩]⟩):=by
 have hr:=Qec x pc c xs n pc 4 1 hx hc gK hl hY hn gR;have gT:=Qar (x) (pc) (c) hx hc;have jJ:=Qal (x) (pc) (c);have qN:=Qah (x) (pc) (c);have qR:=Qai gT;have gpCC:=QaB (x) (pc) (c) hx;generalize c.getD 0 0=S,c.getD 6 0=R at *;have gL:=Qaa xs;have GH:=Qaa (rsM xs n S R pc 4 1);unfold ftW
 by_cases hK:rsK xs n S R pc 4 1=0
 .have hok:=QhM hK
  obtain ⟨ha,wI⟩:=QhL hok gR;have qJ:=Qcb (rsM xs n S R pc 4 1) n (rsA xs n S R pc 4 1) (by rw [Qbl];exact hl) hn wI ha;rw [zP hK];rw [hK] at hr |-;generalize rsA xs n S R pc 4 1=AA at *;generalize (rsM xs n S R pc 4 1).getD (AA / 4) 0=W,wsv (rsM xs n S R pc 4 1)=XM,wsv xs=XX,Qay (x) (pc) (c)=CC at *;refine fnW Tryz.func204 ?_;(repeat' ((conv=>whnf);first|exact zi2|refine zj0 fun hb=>?_|(apply Sg.mk; . first|exact Qa7 CC gT)|((with_reducible apply Ge.mk (α:=SV)); . first|exact gpCC)|(refine QaA hr ?_)|(refine QaA qJ ?_)|refine zse ?_|refine zbb ?_ ?_))
  all_goals exact Qe2
 .rw [zN hK]
  generalize rsK xs n S R pc 4 1=K,rsA xs n S R pc 4 1=AA,wsv (rsM xs n S R pc 4 1)=XM,wsv xs=XX,Qay (x) (pc) (c)=CC at *;refine fnW Tryz.func204 ?_;(repeat' ((conv=>whnf);first|exact zi2|refine zj0 fun hb=>?_|(apply Sg.mk; . first|exact Qa7 CC gT)|((with_reducible apply Ge.mk (α:=SV)); . first|exact gpCC)|(refine QaA hr ?_)|refine zse ?_|refine zbb ?_ ?_))
  all_goals exact Qe2
def wd (o:Int):Int:=if o=32\/o=35 then 4 else 1
theorem Qm6 (o:Int) (h:32<=o/\o<=36):FN 250 [.s (.i o)] [] (. =⟨.a (.s (.i (wd o))),[],[]⟩):=by
 have e:o=32\/o=33\/o=34\/o=35\/o=36:=by omega
 rcases e with rfl|rfl|rfl|rfl|rfl
 all_goals
  refine fnW Tryz.func250 ?_;(conv=>whnf);(repeat' ((first|exact zi0|refine zj0 fun hb=>?_|refine zs0 ?_|refine zbb ?_ ?_)<;>conv=>whnf))
  all_goals exact Qam rfl rfl
def sx8 (x:Nat):Nat:=if x%256<128 then x%256 else x%256+4294967040
theorem QIW (x:Nat) (hx:ZU x):IntKind.u32.wrap ((x:Int)*2^min ((32:Int)-8).toNat IntKind.u32.bits)=((x%256:Nat):Int)*16777216:=by
 rw [show (2:Int)^min ((32:Int)-8).toNat IntKind.u32.bits=16777216 from rfl,Qch];omega
theorem QIX (x:Nat) (hx:x<256):IntKind.i32.wrap ((x:Int)*16777216)=(if x<128 then (x:Int) else x-256)*16777216:=by
 unfold IntKind.wrap;simp only [IntKind.signed,IntKind.bits,Bool.true_and,zde]
 by_cases h:x<128
 .rw [zP h,zN (by simp;omega)];omega
 .rw [zN h,zP (by simp;omega)];omega
theorem QIY (x:Int):x*16777216 / 2^min ((32:Int)-8).toNat IntKind.i32.bits=x:=by
 rw [show (2:Int)^min ((32:Int)-8).toNat IntKind.i32.bits=16777216 from rfl];omega
theorem QIZ (x:Nat):IntKind.u32.wrap (if x%256<128 then ((x%256:Nat):Int) else ((x%256:Nat):Int)-256)=(sx8 x:Nat):=by
 unfold sx8;rw [Qch]
 by_cases h:x%256<128
 .rw [zP h,zP h];omega
 .rw [zN h,zN h];omega
theorem QCZ (x:Nat) (hx:ZU x):FN 191 [.s (.u x),.s (.i 8)] [] (. =⟨.a (.s (.u (sx8 x:Nat))),[],[]⟩):=by
 refine fnW Tryz.func191 ?_;(conv=>whnf);(repeat' ((first|exact zi0|refine zj0 fun hb=>?_|((with_reducible apply Vl.mk (α:=Int)); . first|exact QIW x hx|exact QIX (x%256) (by omega)|exact QIY _|exact QIZ x)|refine zs0 ?_|refine zbb ?_ ?_)<;>conv=>whnf))
 all_goals exact Qam rfl rfl
theorem QC0 (x:Nat):sx8 x<4294967296:=by unfold sx8;split<;>omega
theorem QoX (w a:Nat):byN w a<256:=Nat.mod_lt _ (by decide)
def ldV (o:Int) (M:List Nat) (a:Nat):Nat:=if o=32 then M.getD (a / 4) 0 else if o=33 then sx8 (byN (M.getD (a / 4) 0) a) else byN (M.getD (a / 4) 0) a
theorem Qv0 (o:Int) (M:List Nat) (a:Nat) (h:ZL M):ldV o M a<4294967296:=by
 have:=Qab h (a / 4);have:=QoX (M.getD (a / 4) 0) a;have:=QC0 (byN (M.getD (a / 4) 0) a);unfold ldV;split;assumption;split<;>omega
def stM (o:Int) (M:List Nat) (a v:Nat):List Nat:=if o=35 then M.set (a / 4) v else QnD M a v
theorem Qcs (o:Int) (M:List Nat) (a v:Nat):(stM o M a v).length=M.length:=by unfold stM QnD;split<;>simp
theorem Qr6 (o:Int) (M:List Nat) (a v:Nat) (h:ZL M) (hv:ZU v):∀ y∈stM o M a v,y<4294967296:=by
 unfold stM QnD;split
 .exact Qg6 h _ _ hv
 .exact Qg6 h _ _ (QCU _ _ _)
def vaO (x:List Nat) (B:Nat) (m:Int):Nat:=w32 ((x.getD B 0:Nat)+(w32 m:Nat))
def ldX (x:List Nat) (xs:List Nat) (n s r va:Nat) (o:Int) (A:Nat):List Nat:=if rsK xs n s r va (wd o) 2=0 then QaD x A (ldV o (rsM xs n s r va (wd o) 2) (rsA xs n s r va (wd o) 2)) else x
def trP (pc:Nat) (c:List Nat) (K:Int):Nat:=if K=0 then w32 ((pc:Int)+4) else c.getD 1 0
def trC (pc:Nat) (c:List Nat) (K:Int) (va:Nat):List Nat:=if K=0 then c else trL pc c K va
def stX (xs:List Nat) (n s r va v:Nat) (o:Int):List Nat:=if rsK xs n s r va (wd o) 3=0 then stM o (rsM xs n s r va (wd o) 3) (rsA xs n s r va (wd o) 3) v else rsM xs n s r va (wd o) 3
theorem Qtb (x:List Nat) (pc:Nat) (c:List Nat) (xs:List Nat) (n:Nat) (o:Int) (A B C:Nat) (m:Int) (hx:x.length=16) (hc:c.length=8) (gK:ZL c) (gR:ZU pc) (hl:xs.length=n) (hY:ZL xs) (hn:ZU n) (vD:ZL x) (hA:A<16) (hB:B<16) (ho:32<=o/\o<=34) :
  FN 206 [.agg (Qay x pc c),.s (.sl 0 0 n),.agg (iv o A B C m)] [⟨false,1,wsv xs⟩]
   (. =⟨.tup [.agg (Qay (ldX x xs n (c.getD 0 0) (c.getD 6 0) (vaO x B m) o A) (trP pc c (rsK xs n (c.getD 0 0) (c.getD 6 0) (vaO x B m) (wd o) 2)) (trC pc c (rsK xs n (c.getD 0 0) (c.getD 6 0) (vaO x B m) (wd o) 2) (vaO x B m))),.s (.sl 1 0 n)],[],[⟨true,1,wsv (rsM xs n (c.getD 0 0) (c.getD 6 0) (vaO x B m) (wd o) 2)⟩]⟩):=by
 have gX:vaO x B m<4294967296:=QaG _;have WU:=Qm6 o (by omega);have hr:=Qec x pc c xs n (vaO x B m) (wd o) 2 hx hc gK hl hY hn gX;have rA:=Qav x pc c A hx hA;have rB:=Qav x pc c B hx hB;have xA:=Qab vD A;have qm:IntKind.u32.wrap m=((w32 m:Nat):Int):=Qau m;have q4:IntKind.u32.wrap ((pc:Int)+4)=((w32 ((pc:Int)+4):Nat):Int):=Qau _;have qv:IntKind.u32.wrap (((x.getD B 0:Nat):Int)+((w32 m:Nat):Int))=((vaO x B m:Nat):Int):=Qau _;have gL:=Qaa xs;generalize c.getD 0 0=S,c.getD 6 0=R,vaO x B m=va at *;have gT:=Qar (x) (pc) (c) hx hc;have jJ:=Qal (x) (pc) (c);have qN:=Qah (x) (pc) (c);have qR:=Qai gT;have gpCC:=QaB (x) (pc) (c) hx;have GH:=Qaa (rsM xs n S R va (wd o) 2);unfold ldX trP trC
 by_cases hK:rsK xs n S R va (wd o) 2=0
 .have hok:=QhM hK
  obtain ⟨ha,wI⟩:=QhL hok gX;have gI:(rsM xs n S R va (wd o) 2).length=n:=by rw [Qbl];exact hl
  have gB:=Qc8 xs n S R va (wd o) 2 hY;rw [zP hK,zP hK,zP hK];rw [hK] at hr;generalize rsM xs n S R va (wd o) 2=M,rsA xs n S R va (wd o) 2=AA at *
  obtain ⟨V0,qJ,hV⟩:∃ V0,FN 117 [.s (.sl 0 0 n),.s (.u AA),.s (.i (wd o))] [⟨false,1,wsv M⟩] (. =⟨.tup [.s (.u ((V0:Nat):Int)),.s (.bool true)],[],[]⟩)/\V0<4294967296/\ldV o M AA=(if o=33 then sx8 V0 else V0):=by
   by_cases h32:o=32
   .subst h32
    exact ⟨_,Qcb M n AA gI hn wI ha,Qab gB _,rfl⟩
   .have wN:wd o=1:=zN (by omega)
    rw [wN] at ha |-;refine ⟨_,Qmx M n AA gI gB hn wI ha,Nat.lt_trans (QoX _ _) (by decide),?_⟩;unfold ldV;rw [zN h32]
  have GI:=QCZ V0 hV.1;obtain ⟨V,YH⟩:∃ V,ldV o M AA=V:=⟨_,rfl⟩;rw [YH] at hV |-;have gN:=QhQ x pc c A V hx hc hA;have qZ:=QaP (QaD x A V) pc c (w32 ((pc:Int)+4)) (by rw [Qaz];exact hx);have qM:=Qar (QaD x A V) (pc) (c) (by rw [Qaz];exact hx) hc;have uY:=Qal (QaD x A V) (pc) (c);have jP:=Qah (QaD x A V) (pc) (c);have wQ:=Qai qM;have gpC2:=QaB (QaD x A V) (pc) (c) (by rw [Qaz];exact hx);have gC:=Qar (QaD x A V) (w32 ((pc:Int)+4)) (c) (by rw [Qaz];exact hx) hc;have fZ:=Qal (QaD x A V) (w32 ((pc:Int)+4)) (c);have gS:=Qah (QaD x A V) (w32 ((pc:Int)+4)) (c);have fH:=Qai gC;have gpC3:=QaB (QaD x A V) (w32 ((pc:Int)+4)) (c) (by rw [Qaz];exact hx);clear YH;generalize wsv M=XM,wsv xs=XX,x.getD A 0=vA,x.getD B 0=vB,w32 m=mm,Qay (QaD x A V) (w32 ((pc:Int)+4)) (c)=C3,Qay (QaD x A V) (pc) (c)=C2,Qay (x) (pc) (c)=CC at *;generalize w32 ((pc:Int)+4)=p4 at *;have e:o=32\/o=33\/o=34:=by omega
  have hV0:=hV.1;rcases e with rfl|rfl|rfl
  all_goals first
   | (
     obtain hq:V=sx8 V0:=hV.2;rw [<- hq] at GI
     clear hq hV)
   | (
     obtain rfl:V=V0:=hV.2
     clear hV)
  all_goals
   refine fnW Tryz.func206 ?_;(repeat' ((conv=>whnf);first|exact zi2|refine zj0 fun hb=>?_|refine QFj ?_|refine QHb ?_|refine QDr ?_|refine zq1 ?_|((with_reducible apply Ge.mk (α:=SV)); . first|exact rB|exact gpC2)|(refine QaA hr ?_)|(refine QaA qJ ?_)|(refine zpu WU ?_)|(refine zpu GI ?_)|(refine zpu gN ?_)|refine zse ?_|refine zbb ?_ ?_))
   all_goals exact Qe2
 .have fW:=Qes x pc c (rsK xs n S R va (wd o) 2) va hx hc gK
  rw [Qbn] at fW;rw [zN hK,zN hK,zN hK];have gC:=Qar (x) (c.getD 1 0) (trL pc c (rsK xs n S R va (wd o) 2) va) hx rfl;have fZ:=Qal (x) (c.getD 1 0) (trL pc c (rsK xs n S R va (wd o) 2) va);have gS:=Qah (x) (c.getD 1 0) (trL pc c (rsK xs n S R va (wd o) 2) va);have fH:=Qai gC;have gpC3:=QaB (x) (c.getD 1 0) (trL pc c (rsK xs n S R va (wd o) 2) va) hx;generalize wsv (rsM xs n S R va (wd o) 2)=XM,rsA xs n S R va (wd o) 2=AA,wsv xs=XX,x.getD A 0=vA,x.getD B 0=vB,w32 m=mm,Qay (x) (c.getD 1 0) (trL pc c (rsK xs n S R va (wd o) 2) va)=C3,Qay (x) (pc) (c)=CC at *;generalize rsK xs n S R va (wd o) 2=K at *;generalize wd o=wo at *;refine fnW Tryz.func206 ?_;exact QEi
theorem Qpi (x:List Nat) (pc:Nat) (c:List Nat) (xs:List Nat) (n:Nat) (o:Int) (A B C:Nat) (m:Int) (hx:x.length=16) (hc:c.length=8) (gK:ZL c) (gR:ZU pc) (hl:xs.length=n) (hY:ZL xs) (hn:ZU n) (vD:ZL x) (hA:A<16) (hB:B<16) (ho:35<=o/\o<=36) :
  FN 207 [.agg (Qay x pc c),.s (.sl 0 0 n),.agg (iv o A B C m)] [⟨false,1,wsv xs⟩]
   (. =⟨.tup [.agg (Qay x (trP pc c (rsK xs n (c.getD 0 0) (c.getD 6 0) (vaO x B m) (wd o) 3)) (trC pc c (rsK xs n (c.getD 0 0) (c.getD 6 0) (vaO x B m) (wd o) 3) (vaO x B m))),.s (.sl 1 0 n)],[],[⟨true,1,wsv (stX xs n (c.getD 0 0) (c.getD 6 0) (vaO x B m) (x.getD A 0) o)⟩]⟩):=by
 have gX:vaO x B m<4294967296:=QaG _;have WU:=Qm6 o (by omega);have hr:=Qec x pc c xs n (vaO x B m) (wd o) 3 hx hc gK hl hY hn gX;have rA:=Qav x pc c A hx hA;have rB:=Qav x pc c B hx hB;have xA:=Qab vD A;have qm:IntKind.u32.wrap m=((w32 m:Nat):Int):=Qau m;have q4:IntKind.u32.wrap ((pc:Int)+4)=((w32 ((pc:Int)+4):Nat):Int):=Qau _;have qv:IntKind.u32.wrap (((x.getD B 0:Nat):Int)+((w32 m:Nat):Int))=((vaO x B m:Nat):Int):=Qau _;have gL:=Qaa xs;generalize c.getD 0 0=S,c.getD 6 0=R,vaO x B m=va at *;have gT:=Qar (x) (pc) (c) hx hc;have jJ:=Qal (x) (pc) (c);have qN:=Qah (x) (pc) (c);have qR:=Qai gT;have gpCC:=QaB (x) (pc) (c) hx;have GH:=Qaa (rsM xs n S R va (wd o) 3);unfold stX trP trC
 by_cases hK:rsK xs n S R va (wd o) 3=0
 .have hok:=QhM hK
  obtain ⟨ha,wI⟩:=QhL hok gX;have gI:(rsM xs n S R va (wd o) 3).length=n:=by rw [Qbl];exact hl
  have gB:=Qc8 xs n S R va (wd o) 3 hY;rw [zP hK,zP hK,zP hK];rw [hK] at hr;generalize rsM xs n S R va (wd o) 3=M,rsA xs n S R va (wd o) 3=AA at *
  have qJ:FN 252 [.s (.sl 0 0 n),.s (.u AA),.s (.i (wd o)),.s (.u (x.getD A 0:Nat))] [⟨false,1,wsv M⟩] (. =⟨.tup [.s (.sl 1 0 n),.s (.bool true)],[],[⟨true,1,wsv (stM o M AA (x.getD A 0))⟩]⟩):=by
   by_cases vG:o=35
   .subst vG
    exact Qkh M n AA (x.getD A 0) gI hn wI ha
   .have wN:wd o=1:=zN (by omega)
    rw [wN] at ha |-;unfold stM;rw [zN vG];exact Qr9 M n AA (x.getD A 0) gI hn wI ha
  have hss:=Qaa (stM o M AA (x.getD A 0));have qZ:=QaP x pc c (w32 ((pc:Int)+4)) hx;have gC:=Qar (x) (w32 ((pc:Int)+4)) (c) hx hc;have fZ:=Qal (x) (w32 ((pc:Int)+4)) (c);have gS:=Qah (x) (w32 ((pc:Int)+4)) (c);have fH:=Qai gC;have gpC3:=QaB (x) (w32 ((pc:Int)+4)) (c) hx;generalize wsv (stM o M AA (x.getD A 0))=XS,wsv M=XM,wsv xs=XX at *;generalize x.getD A 0=vA,x.getD B 0=vB,w32 m=mm,Qay (x) (w32 ((pc:Int)+4)) (c)=C3,Qay (x) (pc) (c)=CC at *;generalize w32 ((pc:Int)+4)=p4,wd o=wo at *;refine fnW Tryz.func207 ?_;(repeat' ((conv=>whnf);first|exact zi2|refine zj0 fun hb=>?_|refine QFj ?_|refine zq9 ?_|refine QFc ?_|refine zq1 ?_|refine QFi ?_|(refine QaA hr ?_)|(refine QaA qJ ?_)|(refine zpu WU ?_)|refine zse ?_|refine zbb ?_ ?_))
  all_goals exact Qe2
 .have fW:=Qes x pc c (rsK xs n S R va (wd o) 3) va hx hc gK
  rw [Qbn] at fW;rw [zN hK,zN hK,zN hK];have gC:=Qar (x) (c.getD 1 0) (trL pc c (rsK xs n S R va (wd o) 3) va) hx rfl;have fZ:=Qal (x) (c.getD 1 0) (trL pc c (rsK xs n S R va (wd o) 3) va);have gS:=Qah (x) (c.getD 1 0) (trL pc c (rsK xs n S R va (wd o) 3) va);have fH:=Qai gC;have gpC3:=QaB (x) (c.getD 1 0) (trL pc c (rsK xs n S R va (wd o) 3) va) hx;generalize wsv (rsM xs n S R va (wd o) 3)=XM,rsA xs n S R va (wd o) 3=AA,wsv xs=XX,x.getD A 0=vA,x.getD B 0=vB,w32 m=mm,Qay (x) (c.getD 1 0) (trL pc c (rsK xs n S R va (wd o) 3) va)=C3,Qay (x) (pc) (c)=CC at *;generalize rsK xs n S R va (wd o) 3=K at *;generalize wd o=wo at *;refine fnW Tryz.func207 ?_;exact QEi
def nA (w:Nat):Nat:=w / 2^20%2^4
def nB (w:Nat):Nat:=w / 2^16%2^4
def nC (w:Nat):Nat:=(dC w).toNat
theorem QBq (w:Nat) (hw:ZU w) (h:dOk w=true):FN 122 [.s (.u w)] [] (. =⟨.tup [.agg (iv (dOp w) (dA w) (dB w) (dC w) (dM w)),.s (.bool true)],[],[]⟩):=by
 exact Qu9
theorem QBp (w:Nat) (hw:ZU w) (h:dOk w=false):FN 122 [.s (.u w)] [] (. =⟨.tup [.agg (iv 0 0 0 0 0),.s (.bool false)],[],[]⟩):=by
 exact Qu9
theorem Qic (w:Nat) (h:dOk w=true):dA w=(nA w:Nat)/\nA w<16/\dB w=(nB w:Nat)/\nB w<16/\dC w=(nC w:Nat)/\nC w<16/\(-32768<=dM w/\dM w<=65535)/\(dOp w=58->0<=dM w/\dM w<8) /\
  (1<=dOp w/\dOp w<=13\/16<=dOp w/\dOp w<=24\/32<=dOp w/\dOp w<=36\/40<=dOp w/\dOp w<=45\/dOp w=48\/dOp w=49\/56<=dOp w/\dOp w<=64):=by
 unfold dOk at h;rw [zba] at h;obtain ⟨h1,h2⟩:=h;unfold QfJ at h2;simp only [zba,zde] at h2;obtain ⟨⟨⟨⟨⟨_,_⟩,_⟩,h6⟩,h7⟩,h8⟩:=h2;have fF:0<=dC w:=by unfold dC;split<;>omega
 have WC:dC w<16:=by
  cases hu:Qsq (dOp w) with
  | false=>unfold dC;rw [hu];simp
  | true =>
   rw [hu] at h6;unfold QmI at h6;simp only [zba,zde] at h6;omega
 have hcls:1<=dOp w/\dOp w<=13\/16<=dOp w/\dOp w<=24\/32<=dOp w/\dOp w<=36\/40<=dOp w/\dOp w<=45\/dOp w=48\/dOp w=49\/56<=dOp w/\dOp w<=64:=by
  unfold QcX Qsp at h1;simp only [Bool.or_eq_true,zde] at h1;omega
 refine ⟨rfl,Nat.mod_lt _ (by decide),rfl,Nat.mod_lt _ (by decide),(by unfold nC;omega),(by unfold nC;omega),?_,?_,hcls⟩
 .have qJ: -32768<=Qha (dOp w):=by unfold Qha;split<;>omega
  have hhi:Qhp (dOp w)<=65535:=by
                      unfold Qhp;repeat' split
                      all_goals omega
  omega
 .intro h58
  rw [h58] at h7 h8;have a:Qha 58=0:=rfl;have b:Qhp 58=7:=rfl;omega
structure Ex where
 (x:List Nat) (pc:Nat) (c:List Nat) (m:List Nat) (e:List SV)
def E0:List SV:= [.i 0,.i 0,.i 0,.u (0:Nat)]
def exS (x:List Nat) (pc:Nat) (c:List Nat) (xs:List Nat) (n:Nat):Ex :=
 if rsK xs n (c.getD 0 0) (c.getD 6 0) pc 4 1≠0 then ⟨x,c.getD 1 0,trL pc c (rsK xs n (c.getD 0 0) (c.getD 6 0) pc 4 1) pc,rsM xs n (c.getD 0 0) (c.getD 6 0) pc 4 1,E0⟩
 else if dOk (ftW xs n (c.getD 0 0) (c.getD 6 0) pc)=false then ⟨x,c.getD 1 0,trL pc c 1 (ftW xs n (c.getD 0 0) (c.getD 6 0) pc),rsM xs n (c.getD 0 0) (c.getD 6 0) pc 4 1,E0⟩
 else if 57<=dOp (ftW xs n (c.getD 0 0) (c.getD 6 0) pc)/\c.getD 0 0%2=0 then ⟨x,c.getD 1 0,trL pc c 2 (ftW xs n (c.getD 0 0) (c.getD 6 0) pc),rsM xs n (c.getD 0 0) (c.getD 6 0) pc 4 1,E0⟩
 else if 32<=dOp (ftW xs n (c.getD 0 0) (c.getD 6 0) pc)/\dOp (ftW xs n (c.getD 0 0) (c.getD 6 0) pc)<=34 then
  ⟨ldX x (rsM xs n (c.getD 0 0) (c.getD 6 0) pc 4 1) n (c.getD 0 0) (c.getD 6 0) (vaO x (nB (ftW xs n (c.getD 0 0) (c.getD 6 0) pc)) (dM (ftW xs n (c.getD 0 0) (c.getD 6 0) pc))) (dOp (ftW xs n (c.getD 0 0) (c.getD 6 0) pc)) (nA (ftW xs n (c.getD 0 0) (c.getD 6 0) pc)),
   trP pc c (rsK (rsM xs n (c.getD 0 0) (c.getD 6 0) pc 4 1) n (c.getD 0 0) (c.getD 6 0) (vaO x (nB (ftW xs n (c.getD 0 0) (c.getD 6 0) pc)) (dM (ftW xs n (c.getD 0 0) (c.getD 6 0) pc))) (wd (dOp (ftW xs n (c.getD 0 0) (c.getD 6 0) pc))) 2),
   trC pc c (rsK (rsM xs n (c.getD 0 0) (c.getD 6 0) pc 4 1) n (c.getD 0 0) (c.getD 6 0) (vaO x (nB (ftW xs n (c.getD 0 0) (c.getD 6 0) pc)) (dM (ftW xs n (c.getD 0 0) (c.getD 6 0) pc))) (wd (dOp (ftW xs n (c.getD 0 0) (c.getD 6 0) pc))) 2) (vaO x (nB (ftW xs n (c.getD 0 0) (c.getD 6 0) pc)) (dM (ftW xs n (c.getD 0 0) (c.getD 6 0) pc))),
   rsM (rsM xs n (c.getD 0 0) (c.getD 6 0) pc 4 1) n (c.getD 0 0) (c.getD 6 0) (vaO x (nB (ftW xs n (c.getD 0 0) (c.getD 6 0) pc)) (dM (ftW xs n (c.getD 0 0) (c.getD 6 0) pc))) (wd (dOp (ftW xs n (c.getD 0 0) (c.getD 6 0) pc))) 2,E0⟩
 else if 35<=dOp (ftW xs n (c.getD 0 0) (c.getD 6 0) pc)/\dOp (ftW xs n (c.getD 0 0) (c.getD 6 0) pc)<=36 then
  ⟨x,
   trP pc c (rsK (rsM xs n (c.getD 0 0) (c.getD 6 0) pc 4 1) n (c.getD 0 0) (c.getD 6 0) (vaO x (nB (ftW xs n (c.getD 0 0) (c.getD 6 0) pc)) (dM (ftW xs n (c.getD 0 0) (c.getD 6 0) pc))) (wd (dOp (ftW xs n (c.getD 0 0) (c.getD 6 0) pc))) 3),
   trC pc c (rsK (rsM xs n (c.getD 0 0) (c.getD 6 0) pc 4 1) n (c.getD 0 0) (c.getD 6 0) (vaO x (nB (ftW xs n (c.getD 0 0) (c.getD 6 0) pc)) (dM (ftW xs n (c.getD 0 0) (c.getD 6 0) pc))) (wd (dOp (ftW xs n (c.getD 0 0) (c.getD 6 0) pc))) 3) (vaO x (nB (ftW xs n (c.getD 0 0) (c.getD 6 0) pc)) (dM (ftW xs n (c.getD 0 0) (c.getD 6 0) pc))),
   stX (rsM xs n (c.getD 0 0) (c.getD 6 0) pc 4 1) n (c.getD 0 0) (c.getD 6 0) (vaO x (nB (ftW xs n (c.getD 0 0) (c.getD 6 0) pc)) (dM (ftW xs n (c.getD 0 0) (c.getD 6 0) pc))) (x.getD (nA (ftW xs n (c.getD 0 0) (c.getD 6 0) pc)) 0) (dOp (ftW xs n (c.getD 0 0) (c.getD 6 0) pc)),E0⟩
 else
  ⟨exX x pc c (dOp (ftW xs n (c.getD 0 0) (c.getD 6 0) pc)) (nA (ftW xs n (c.getD 0 0) (c.getD 6 0) pc)) (nB (ftW xs n (c.getD 0 0) (c.getD 6 0) pc)) (nC (ftW xs n (c.getD 0 0) (c.getD 6 0) pc)) (dM (ftW xs n (c.getD 0 0) (c.getD 6 0) pc)),
   exP x pc c (dOp (ftW xs n (c.getD 0 0) (c.getD 6 0) pc)) (nA (ftW xs n (c.getD 0 0) (c.getD 6 0) pc)) (nB (ftW xs n (c.getD 0 0) (c.getD 6 0) pc)) (dM (ftW xs n (c.getD 0 0) (c.getD 6 0) pc)),
   exC x pc c (dOp (ftW xs n (c.getD 0 0) (c.getD 6 0) pc)) (nA (ftW xs n (c.getD 0 0) (c.getD 6 0) pc)) (dM (ftW xs n (c.getD 0 0) (c.getD 6 0) pc)),
   rsM xs n (c.getD 0 0) (c.getD 6 0) pc 4 1,
   exE x (dOp (ftW xs n (c.getD 0 0) (c.getD 6 0) pc)) (nA (ftW xs n (c.getD 0 0) (c.getD 6 0) pc)) (dM (ftW xs n (c.getD 0 0) (c.getD 6 0) pc))⟩
theorem QwU (x:List Nat) (pc:Nat) (c:List Nat) (o:Int) (A B C:Nat) (m:Int) (hx:x.length=16) (hc:c.length=8) (hY:ZL x) (gA:ZL c) (gR:ZU pc) (hA:A<16) (hB:B<16) (hC:C<16) (hm:o=58->0<=m/\m<8) (gB: -32768<=m/\m<=65535) (ho:1<=o/\o<=13\/16<=o/\o<=24\/40<=o/\o<=45\/o=48\/o=49\/56<=o/\o<=64) :
  FN 208 [.agg (Qay x pc c),.agg (iv o A B C m)] [] (. =⟨.tup [.agg (Qay (exX x pc c o A B C m) (exP x pc c o A B m) (exC x pc c o A m)),.agg (exE x o A m)],[],[]⟩):=by
 by_cases h1:1<=o/\o<=13
 .exact QtA x pc c o A B C m hx hc hY gA gR hA hB hC hm gB h1
 by_cases h2:16<=o/\o<=23
 .exact QtB x pc c o A B C m hx hc hY gA gR hA hB hC hm gB h2
 by_cases h3:40<=o/\o<=45
 .cases h:Qdk o (x.getD A 0) (x.getD B 0) with
  | true=>exact Qk5 x pc c o A B C m hx hc hY gA gR hA hB hC hm gB ⟨h3,h⟩
  | false=>exact Qjs x pc c o A B C m hx hc hY gA gR hA hB hC hm gB ⟨h3,h⟩
 have e:o=24\/o=48\/o=49\/o=56\/o=57\/o=58\/o=59\/o=60\/o=61\/o=62\/o=63\/o=64:=by omega
 rcases e with h|h|h|h|h|h|h|h|h|h|h|h
 .exact Qxw x pc c o A B C m hx hc hY gA gR hA hB hC hm gB h
 .exact Qxv x pc c o A B C m hx hc hY gA gR hA hB hC hm gB h
 .exact QtG x pc c o A B C m hx hc hY gA gR hA hB hC hm gB h
 .exact Qp9 x pc c o A B C m hx hc hY gA gR hA hB hC hm gB h
 .exact QtE x pc c o A B C m hx hc hY gA gR hA hB hC hm gB h
 .exact QtC x pc c o A B C m hx hc hY gA gR hA hB hC hm gB h
 .exact QtD x pc c o A B C m hx hc hY gA gR hA hB hC hm gB h
 .exact QBC x pc c o A B C m hx hc hY gA gR hA hB hC hm gB h
 .exact Qxx x pc c o A B C m hx hc hY gA gR hA hB hC hm gB h
 .exact Qxy x pc c o A B C m hx hc hY gA gR hA hB hC hm gB h
 .exact Qqa x pc c o A B C m hx hc hY gA gR hA hB hC hm gB h
 .exact QtF x pc c o A B C m hx hc hY gA gR hA hB hC hm gB h
theorem Qeg (x:List Nat) (pc:Nat) (c:List Nat) (o:Int) (A B C:Nat) (m:Int):(exX x pc c o A B C m).length=x.length:=by
 unfold exX
 repeat' split
 all_goals simp only [Qaz]
theorem Qid (x:List Nat) (pc:Nat) (c:List Nat) (o:Int) (A:Nat) (m:Int) (hc:c.length=8):(exC x pc c o A m).length=8:=by
 unfold exC;split
 .rfl
 .split
  .simpa using hc
  .split
   .rw [Qhd];exact hc
   .exact hc
theorem Qie (x:List Nat) (o:Int) (A:Nat) (m:Int):Qao (exE x o A m)=true/\Qat (exE x o A m)=true/\(exE x o A m).length=4:=by
 unfold exE
 repeat' split
 all_goals exact ⟨rfl,rfl,rfl⟩
theorem QgL (x xs:List Nat) (n s r va:Nat) (o:Int) (A:Nat):(ldX x xs n s r va o A).length=x.length:=by
 unfold ldX;split
 .rw [Qaz]
 .rfl
theorem Qfp (pc:Nat) (c:List Nat) (K:Int) (va:Nat) (hc:c.length=8):(trC pc c K va).length=8:=by
 unfold trC;split
 .exact hc
 .rfl
theorem QfZ (x:List Nat) (pc:Nat) (c:List Nat) (xs:List Nat) (n:Nat) (hx:x.length=16) (hc:c.length=8) (gK:ZL c) (gR:ZU pc) (hl:xs.length=n) (hY:ZL xs) (hn:ZU n) (vD:ZL x) (Q:Ex) (hQ:exS x pc c xs n=Q) :
  FN 141 [.agg (Qay x pc c),.s (.sl 0 0 n)] [⟨false,1,wsv xs⟩]
   (. =⟨.tup [.agg (Qay Q.x Q.pc Q.c),.s (.sl 1 0 n),.agg Q.e],[],[⟨true,1,wsv Q.m⟩]⟩):=by
 have hf:=Qo2 x pc c xs n hx hc gK gR hl hY hn;have hk:=QjA x pc c hx hc (Qab gK 0);have zS:=Qqt xs n (c.getD 0 0) (c.getD 6 0) pc hY;have hM:=Qc8 xs n (c.getD 0 0) (c.getD 6 0) pc 4 1 hY;have FE:(rsM xs n (c.getD 0 0) (c.getD 6 0) pc 4 1).length=n:=by rw [Qbl];exact hl
 have gL:=Qaa xs;have GH:=Qaa (rsM xs n (c.getD 0 0) (c.getD 6 0) pc 4 1);have gT:=Qar (x) (pc) (c) hx hc;have jJ:=Qal (x) (pc) (c);have qN:=Qah (x) (pc) (c);have qR:=Qai gT;have gpCC:=QaB (x) (pc) (c) hx;unfold exS at hQ
 by_cases hK:rsK xs n (c.getD 0 0) (c.getD 6 0) pc 4 1=0
 case neg =>
  rw [zP hK] at hQ;subst hQ;have fW:=Qes x pc c (rsK xs n (c.getD 0 0) (c.getD 6 0) pc 4 1) pc hx hc gK;rw [Qbn] at fW;dsimp only [E0];have gC:=Qar (x) (c.getD 1 0) (trL pc c (rsK xs n (c.getD 0 0) (c.getD 6 0) pc 4 1) (pc)) hx rfl;have fZ:=Qal (x) (c.getD 1 0) (trL pc c (rsK xs n (c.getD 0 0) (c.getD 6 0) pc 4 1) (pc));have gS:=Qah (x) (c.getD 1 0) (trL pc c (rsK xs n (c.getD 0 0) (c.getD 6 0) pc 4 1) (pc));have fH:=Qai gC;have gpC3:=QaB (x) (c.getD 1 0) (trL pc c (rsK xs n (c.getD 0 0) (c.getD 6 0) pc 4 1) (pc)) hx;generalize Qay (x) (c.getD 1 0) (trL pc c (rsK xs n (c.getD 0 0) (c.getD 6 0) pc 4 1) (pc))=C3 at *;generalize rsK xs n (c.getD 0 0) (c.getD 6 0) pc 4 1=K,ftW xs n (c.getD 0 0) (c.getD 6 0) pc=W,wsv (rsM xs n (c.getD 0 0) (c.getD 6 0) pc 4 1)=XM,wsv xs=XX,Qay (x) (pc) (c)=CC at *;refine fnW Tryz.func141 ?_;(repeat' ((conv=>whnf);first|exact zi2|refine zj0 fun hb=>?_|refine Qwu ?_|refine zq4 ?_|refine zq1 ?_|refine QAO ?_|(refine QaA hf ?_)|(refine zpu fW ?_)|refine zse ?_|refine zbb ?_ ?_))
  all_goals exact Qe2
 rw [zN (fun h=>h hK)] at hQ;rw [hK] at hf;generalize hS:c.getD 0 0=S,hR:c.getD 6 0=R at *;generalize hW:ftW xs n S R pc=W,hXM:rsM xs n S R pc 4 1=M at *;clear hK hW hXM
 cases hd:dOk W with
 | false =>
  rw [zP hd] at hQ;subst hQ;have jO:=QBp W zS hd;unfold iv at jO;have fW:=Qes x pc c 1 W hx hc gK;rw [Qbn] at fW;dsimp only [E0];have gC:=Qar (x) (c.getD 1 0) (trL pc c (1) (W)) hx rfl;have fZ:=Qal (x) (c.getD 1 0) (trL pc c (1) (W));have gS:=Qah (x) (c.getD 1 0) (trL pc c (1) (W));have fH:=Qai gC;have gpC3:=QaB (x) (c.getD 1 0) (trL pc c (1) (W)) hx;generalize Qay (x) (c.getD 1 0) (trL pc c (1) (W))=C3,wsv M=XM,wsv xs=XX,Qay (x) (pc) (c)=CC at *;refine fnW Tryz.func141 ?_;(conv=>whnf);(repeat' ((first|exact zi2|refine zj0 fun hb=>?_|refine Qwu ?_|refine zq4 ?_|refine zq1 ?_|(refine QaA hf ?_)|(refine zpu jO ?_)|(refine zpu fW ?_)|refine zse ?_|refine zbb ?_ ?_)<;>conv=>whnf))
  all_goals exact Qe2
 | true =>
 rw [zN (by rw [hd];decide)] at hQ;have jO:=QBq W zS hd;obtain ⟨a1,a2,b1,b2,c1,c2,m1,m2,_⟩:=Qic W hd;rw [a1,b1,c1] at jO;have gH:=Qrq (dOp W);generalize nA W=A,nB W=B,nC W=C,dM W=m,dOp W=o at *;clear hd a1 b1 c1
 by_cases hpv:57<=o/\S%2=0
 .rw [zP hpv] at hQ
  subst hQ;rw [show QgV o=true from zdt (by omega)] at gH;rw [hpv.2] at hk;have fW:=Qes x pc c 2 W hx hc gK;rw [Qbn] at fW;dsimp only [E0];unfold iv at jO;have gC:=Qar (x) (c.getD 1 0) (trL pc c (2) (W)) hx rfl;have fZ:=Qal (x) (c.getD 1 0) (trL pc c (2) (W));have gS:=Qah (x) (c.getD 1 0) (trL pc c (2) (W));have fH:=Qai gC;have gpC3:=QaB (x) (c.getD 1 0) (trL pc c (2) (W)) hx;generalize Qay (x) (c.getD 1 0) (trL pc c (2) (W))=C3,wsv M=XM,wsv xs=XX,Qay (x) (pc) (c)=CC at *;refine fnW Tryz.func141 ?_;(repeat' ((conv=>whnf);first|exact zi2|refine zj0 fun hb=>?_|refine Qwu ?_|refine zq4 ?_|refine zq1 ?_|(refine QaA hf ?_)|(refine zpu jO ?_)|(refine zpu gH ?_)|(refine zpu hk ?_)|(refine zpu fW ?_)|refine zse ?_|refine zbb ?_ ?_))
  all_goals exact Qe2
 rw [zN hpv] at hQ;obtain ⟨bp,ZK,jA⟩:∃ bp,QgV o=bp/\(bp=true->S%2=1):=⟨_,rfl,fun h=>by unfold QgV at h;simp only [zde] at h;omega⟩;rw [ZK] at gH;generalize S%2=S2 at *
 by_cases h32:32<=o/\o<=34
 .rw [zP h32] at hQ
  subst hQ;have jU:=Qtb x pc c M n o A B C m hx hc gK gR FE hM hn vD a2 b2 h32;rw [hS,hR] at jU;dsimp only [E0];have hsl:=Qaa (rsM M n S R (vaO x B m) (wd o) 2);obtain rfl:bp=false:=QsN;clear hk jA hpv;have gC:=Qar (ldX x M n S R (vaO x B m) o A) (trP pc c (rsK M n S R (vaO x B m) (wd o) 2)) (trC pc c (rsK M n S R (vaO x B m) (wd o) 2) (vaO x B m)) (by rw [QgL];exact hx) (Qfp _ _ _ _ hc);have fZ:=Qal (ldX x M n S R (vaO x B m) o A) (trP pc c (rsK M n S R (vaO x B m) (wd o) 2)) (trC pc c (rsK M n S R (vaO x B m) (wd o) 2) (vaO x B m));have gS:=Qah (ldX x M n S R (vaO x B m) o A) (trP pc c (rsK M n S R (vaO x B m) (wd o) 2)) (trC pc c (rsK M n S R (vaO x B m) (wd o) 2) (vaO x B m));have fH:=Qai gC;have gpC3:=QaB (ldX x M n S R (vaO x B m) o A) (trP pc c (rsK M n S R (vaO x B m) (wd o) 2)) (trC pc c (rsK M n S R (vaO x B m) (wd o) 2) (vaO x B m)) (by rw [QgL];exact hx);generalize Qay (ldX x M n S R (vaO x B m) o A) (trP pc c (rsK M n S R (vaO x B m) (wd o) 2)) (trC pc c (rsK M n S R (vaO x B m) (wd o) 2) (vaO x B m))=C3,wsv (rsM M n S R (vaO x B m) (wd o) 2)=XL,wsv M=XM,wsv xs=XX,Qay (x) (pc) (c)=CC at *;unfold iv at jO jU;have e:o=32\/o=33\/o=34:=by omega
  rcases e with rfl|rfl|rfl
  all_goals
   refine fnW Tryz.func141 ?_;exact QEj
 rw [zN h32] at hQ
 by_cases vG:35<=o/\o<=36
 .rw [zP vG] at hQ
  subst hQ;have jU:=Qpi x pc c M n o A B C m hx hc gK gR FE hM hn vD a2 b2 vG;rw [hS,hR] at jU;dsimp only [E0];have hsl:=Qaa (stX M n S R (vaO x B m) (x.getD A 0) o);obtain rfl:bp=false:=QsN;clear hk jA hpv;have gC:=Qar (x) (trP pc c (rsK M n S R (vaO x B m) (wd o) 3)) (trC pc c (rsK M n S R (vaO x B m) (wd o) 3) (vaO x B m)) hx (Qfp _ _ _ _ hc);have fZ:=Qal (x) (trP pc c (rsK M n S R (vaO x B m) (wd o) 3)) (trC pc c (rsK M n S R (vaO x B m) (wd o) 3) (vaO x B m));have gS:=Qah (x) (trP pc c (rsK M n S R (vaO x B m) (wd o) 3)) (trC pc c (rsK M n S R (vaO x B m) (wd o) 3) (vaO x B m));have fH:=Qai gC;have gpC3:=QaB (x) (trP pc c (rsK M n S R (vaO x B m) (wd o) 3)) (trC pc c (rsK M n S R (vaO x B m) (wd o) 3) (vaO x B m)) hx;generalize Qay (x) (trP pc c (rsK M n S R (vaO x B m) (wd o) 3)) (trC pc c (rsK M n S R (vaO x B m) (wd o) 3) (vaO x B m))=C3,wsv (stX M n S R (vaO x B m) (x.getD A 0) o)=XL,wsv M=XM,wsv xs=XX,Qay (x) (pc) (c)=CC at *;unfold iv at jO jU;have e:o=35\/o=36:=by omega
  rcases e with rfl|rfl
  all_goals
   refine fnW Tryz.func141 ?_;exact QEj
 rw [zN vG] at hQ;subst hQ;have jU:=QwU x pc c o A B C m hx hc vD gK gR a2 b2 c2 m2 m1 (by omega);obtain ⟨_,ek,el⟩:=Qie x o A m;have gC:=Qar (exX x pc c o A B C m) (exP x pc c o A B m) (exC x pc c o A m) (by rw [Qeg];exact hx) (Qid x pc c o A m hc);have fZ:=Qal (exX x pc c o A B C m) (exP x pc c o A B m) (exC x pc c o A m);have gS:=Qah (exX x pc c o A B C m) (exP x pc c o A B m) (exC x pc c o A m);have fH:=Qai gC;have gpC3:=QaB (exX x pc c o A B C m) (exP x pc c o A B m) (exC x pc c o A m) (by rw [Qeg];exact hx);have n1:¬ o=32:=by omega
 have n2:¬ o=33:=by omega
 have n3:¬ o=34:=by omega
 have n4:¬ o=35:=by omega
 have n5:¬ o=36:=by omega
 dsimp only;generalize Qay (exX x pc c o A B C m) (exP x pc c o A B m) (exC x pc c o A m)=C3,wsv M=XM,wsv xs=XX,exE x o A m=EE at *;have WX:∀ c:List SV,c.length=4->QaC c 0 EE=EE:=fun c hc=>Qce (hc.trans el.symm)
 generalize Qay (x) (pc) (c)=CC at *;unfold iv at jO jU
 cases bp with
 | false =>
  clear hk jA hpv;refine fnW Tryz.func141 ?_;(conv=>whnf);(repeat' ((first|exact zi2|refine zj0 fun hb=>?_|refine QH0 ?_|refine QFb ?_|refine QFh ?_|(refine QaA hf ?_)|(refine zpu jO ?_)|(refine zpu gH ?_)|(refine zpu jU ?_)|refine zse ?_|refine zbb ?_ ?_)<;>conv=>whnf))
  all_goals exact Qe2
 | true =>
  obtain rfl:S2=1:=jA rfl;refine fnW Tryz.func141 ?_;(repeat' ((conv=>whnf);first|exact zi2|refine zj0 fun hb=>?_|refine QH0 ?_|refine QFb ?_|refine QFh ?_|(refine QaA hf ?_)|(refine zpu jO ?_)|(refine zpu gH ?_)|(refine zpu hk ?_)|(refine zpu jU ?_)|refine zse ?_|refine zbb ?_ ?_))
  all_goals exact Qe2
end Go.Proofs.YtpgkkfajljekpabGreat
