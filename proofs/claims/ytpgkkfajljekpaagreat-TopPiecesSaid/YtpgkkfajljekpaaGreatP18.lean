import Derived.Test.YtpgkkfajljekpaaGreatP13
set_option linter.unusedSimpArgs false
set_option linter.unusedVariables false
set_option maxHeartbeats 0
set_option maxRecDepth 100000
namespace Go.Proofs.YtpgkkfajljekpaaGreat
open Go Go.RowKit
theorem QmJ (o:Int) (a b:Nat) (ha:a<4294967296) (fV:b<4294967296):FN 123 [.s (.i o),.s (.u a),.s (.u b)] [] (. =⟨.a (.s (.bool (Qdf o a b))),[],[]⟩):=by
 refine fnW Tryz.func123 ?_;exact QIx
theorem Qaj {l:List SV} (h:l.length=25):∀ c:List SV,c.length=25->QaC c 0 l=l:=fun c hc=>Qcc (hc.trans h.symm)
theorem QhK (x:List Nat) (pc:Nat) (c:List Nat) (r v:Nat) (hx:x.length=16) (hc:c.length=8) (hr:r<16):FN 121 [.agg (Qax x pc c),.s (.i r),.s (.u v)] [] (. =⟨.a (.agg (Qax (QaD x r v) pc c)),[],[]⟩):=by
 have hl:=Qaq x pc c hx hc;have hs:=Qam x pc c;have hk:=Qai x pc c;have wi:=QDa r;have hw:=Qh3 x pc c r v hx hr;have hl2:=Qaq (x.set r v) pc c (by simpa using hx) hc;have gY:=Qam (x.set r v) pc c;have yR:=Qaj hl;have hz2:=Qaj hl2;have jE:=Qai (x.set r v) pc c;unfold QaD
 by_cases h:r=0
 .rw [zP h]
  subst h;generalize Qax x pc c=C at *;refine fnW Tryz.func121 ?_;(repeat' ((conv=>whnf);first|exact zi2|(refine zj0 ?_;intro hb)|(apply Sd.mk; . exact ⟨hl,hk,rfl,(by show 0+C.length<=25;omega)⟩)|((with_reducible apply Vl.mk (α:=List SV)); . exact yR _ rfl)|(apply Sg.mk; . exact Qa6 C hl)|refine zse ?_|refine zbb ?_ ?_))
  all_goals exact zf_
 .rw [zN h]
  generalize Qax (x.set r v) pc c=C2,Qax x pc c=C at *;refine fnW Tryz.func121 ?_;(repeat' ((conv=>whnf);first|exact zi2|(refine zj0 ?_;intro hb)|(apply Sd.mk; . first|exact ⟨hl2,jE,rfl,(by show 0+C2.length<=25;omega)⟩|(show (0:Int)<=r/\(r:Int)<16;omega)|(refine ⟨rfl,rfl,rfl,?_⟩;show r+1<=C.length;omega))|((with_reducible apply Vl.mk (α:=List SV)); . first|with_reducible exact hw|exact hz2 _ rfl)|(apply Sg.mk; . exact Qa6 C2 hl2)|refine zse ?_|refine zbb ?_ ?_))
  all_goals exact zf_
theorem Qtp (x:List Nat) (pc:Nat) (c:List Nat) (o:Int) (A B C:Nat) (m:Int) (hx:x.length=16) (hc:c.length=8) (hY:ZL x) (gA:ZL c) (gQ:pc<4294967296) (hA:A<16) (hB:B<16) (hC:C<16) (hm:o=58->0<=m/\m<8) (gB: -32768<=m/\m<=65535) (ho:1<=o/\o<=13) :
  FN 58 [.agg (Qax x pc c),.agg (iv o A B C m)] [] (. =⟨.tup [.agg (Qax (exX x pc c o A B C m) (exP x pc c o A B m) (exC x pc c o A m)),.agg (exE x o A m)],[],[]⟩):=by
 have eX:exX x pc c o A B C m=QaD x A (Qbs o (x.getD B 0) (x.getD C 0)):=by unfold exX;rw [zP (by omega)]
 have eP:exP x pc c o A B m=w32 ((pc:Int)+4):=Qdd;have eC:exC x pc c o A m=c:=Qcg;have eE:exE x o A m= [.i 0,.i 0,.i 0,.u (0:Nat)]:=Qd0;rw [eX,eP,eC,eE];have rA:=Qav x pc c A hx hA;have rB:=Qav x pc c B hx hB;have rC:=Qav x pc c C hx hC;have gp:=QaB x pc c hx;have qm:IntKind.u32.wrap m=((w32 m:Nat):Int):=Qau m;have q4:IntKind.u32.wrap ((pc:Int)+4)=((w32 ((pc:Int)+4):Nat):Int):=Qau _;have xA:=Qab hY A;have xB:=Qab hY B;have xC:=Qab hY C;have lm:=QaF m;have hl:=Qaq x pc c hx hc;have hs:=Qam x pc c;have hk:=Qai x pc c;have yR:=Qaj hl;obtain ⟨V,hV⟩:∃ V,Qbs o (x.getD B 0) (x.getD C 0)=V:=⟨_,rfl⟩;obtain ⟨PP,qX⟩:∃ PP,w32 ((pc:Int)+4)=PP:=⟨_,rfl⟩;rw [hV,qX];rw [qX] at q4;have gW:=Qdh o (x.getD B 0) (x.getD C 0) xB (by first|exact xC|exact lm);rw [<- Qbf o (x.getD B 0) (x.getD C 0) xB (by first|exact xC|exact lm),hV] at gW;exact QHq
theorem Qtq (x:List Nat) (pc:Nat) (c:List Nat) (o:Int) (A B C:Nat) (m:Int) (hx:x.length=16) (hc:c.length=8) (hY:ZL x) (gA:ZL c) (gQ:pc<4294967296) (hA:A<16) (hB:B<16) (hC:C<16) (hm:o=58->0<=m/\m<8) (gB: -32768<=m/\m<=65535) (ho:16<=o/\o<=23) :
  FN 58 [.agg (Qax x pc c),.agg (iv o A B C m)] [] (. =⟨.tup [.agg (Qax (exX x pc c o A B C m) (exP x pc c o A B m) (exC x pc c o A m)),.agg (exE x o A m)],[],[]⟩):=by
 have eX:exX x pc c o A B C m=QaD x A (Qbs o (x.getD B 0) (w32 m)):=by unfold exX;rw [zN (by omega),zP (by omega)]
 have eP:exP x pc c o A B m=w32 ((pc:Int)+4):=Qdd;have eC:exC x pc c o A m=c:=Qcg;have eE:exE x o A m= [.i 0,.i 0,.i 0,.u (0:Nat)]:=Qd0;rw [eX,eP,eC,eE];have rA:=Qav x pc c A hx hA;have rB:=Qav x pc c B hx hB;have rC:=Qav x pc c C hx hC;have gp:=QaB x pc c hx;have qm:IntKind.u32.wrap m=((w32 m:Nat):Int):=Qau m;have q4:IntKind.u32.wrap ((pc:Int)+4)=((w32 ((pc:Int)+4):Nat):Int):=Qau _;have xA:=Qab hY A;have xB:=Qab hY B;have xC:=Qab hY C;have lm:=QaF m;have hl:=Qaq x pc c hx hc;have hs:=Qam x pc c;have hk:=Qai x pc c;have yR:=Qaj hl;obtain ⟨V,hV⟩:∃ V,Qbs o (x.getD B 0) (w32 m)=V:=⟨_,rfl⟩;obtain ⟨PP,qX⟩:∃ PP,w32 ((pc:Int)+4)=PP:=⟨_,rfl⟩;rw [hV,qX];rw [qX] at q4;have gW:=Qdh o (x.getD B 0) (w32 m) xB (by first|exact xC|exact lm);rw [<- Qbf o (x.getD B 0) (w32 m) xB (by first|exact xC|exact lm),hV] at gW;exact QHq
theorem Qxp (x:List Nat) (pc:Nat) (c:List Nat) (o:Int) (A B C:Nat) (m:Int) (hx:x.length=16) (hc:c.length=8) (hY:ZL x) (gA:ZL c) (gQ:pc<4294967296) (hA:A<16) (hB:B<16) (hC:C<16) (hm:o=58->0<=m/\m<8) (gB: -32768<=m/\m<=65535) (ho:o=24) :
  FN 58 [.agg (Qax x pc c),.agg (iv o A B C m)] [] (. =⟨.tup [.agg (Qax (exX x pc c o A B C m) (exP x pc c o A B m) (exC x pc c o A m)),.agg (exE x o A m)],[],[]⟩):=by
 have eX:exX x pc c o A B C m=QaD x A (w32 ((w32 m:Nat)*65536)):=by unfold exX;rw [zN (by omega),zN (by omega),zP (by omega)]
 have eP:exP x pc c o A B m=w32 ((pc:Int)+4):=Qdd;have eC:exC x pc c o A m=c:=Qcg;have eE:exE x o A m= [.i 0,.i 0,.i 0,.u (0:Nat)]:=Qd0;rw [eX,eP,eC,eE];have rA:=Qav x pc c A hx hA;have rB:=Qav x pc c B hx hB;have rC:=Qav x pc c C hx hC;have gp:=QaB x pc c hx;have qm:IntKind.u32.wrap m=((w32 m:Nat):Int):=Qau m;have q4:IntKind.u32.wrap ((pc:Int)+4)=((w32 ((pc:Int)+4):Nat):Int):=Qau _;have xA:=Qab hY A;have xB:=Qab hY B;have xC:=Qab hY C;have lm:=QaF m;have hl:=Qaq x pc c hx hc;have hs:=Qam x pc c;have hk:=Qai x pc c;have yR:=Qaj hl;obtain ⟨V,hV⟩:∃ V,w32 ((w32 m:Nat)*65536)=V:=⟨_,rfl⟩;obtain ⟨PP,qX⟩:∃ PP,w32 ((pc:Int)+4)=PP:=⟨_,rfl⟩;rw [hV,qX];rw [qX] at q4;have q16:IntKind.u32.wrap (((w32 m:Nat):Int)*2^min (Int.toNat 16) IntKind.u32.bits)=(V:Int):=by rw [show (2:Int)^min (Int.toNat 16) IntKind.u32.bits=65536 from rfl,Qau,hV]
 have gN:=QhK x pc c A V hx hc hA;have hl2:=Qaq (QaD x A V) pc c (by rw [Qay];exact hx) hc;have gY:=Qam (QaD x A V) pc c;have jE:=Qai (QaD x A V) pc c;have wT:QaC (Qax x pc c) 0 (Qax (QaD x A V) pc c)=Qax (QaD x A V) pc c:=Qcc (by omega);have jC:=QaN (QaD x A V) pc c PP (by rw [Qay];exact hx);have jG:=Qaq (QaD x A V) PP c (by rw [Qay];exact hx) hc;have fI:=Qam (QaD x A V) PP c;have yJ:=Qai (QaD x A V) PP c;have zG:=Qaj jG;have gp2:=QaB (QaD x A V) pc c (by rw [Qay];exact hx);generalize Qax (QaD x A V) PP c=C3,Qax (QaD x A V) pc c=C2 at *;clear eX eP eC eE hY gA hm;generalize x.getD A 0=vA,x.getD B 0=vB,x.getD C 0=vC at *;skip;generalize Qax x pc c=CC,w32 m=mm,w32 ((pc:Int)+4)=p4 at *;refine fnW Tryz.func58 ?_;(repeat' ((conv=>whnf);first|exact zi2|(refine zj0 ?_;intro hb)|refine QE6 ?_|(with_reducible first|refine zv qm ?_|refine zv q4 ?_|refine zv q16 ?_)|refine QuY ?_|refine QH4 ?_|refine zq5 ?_|(refine zpu gN ?_)|refine zse ?_|refine zbb ?_ ?_))
 all_goals exact zF_
theorem Qxo (x:List Nat) (pc:Nat) (c:List Nat) (o:Int) (A B C:Nat) (m:Int) (hx:x.length=16) (hc:c.length=8) (hY:ZL x) (gA:ZL c) (gQ:pc<4294967296) (hA:A<16) (hB:B<16) (hC:C<16) (hm:o=58->0<=m/\m<8) (gB: -32768<=m/\m<=65535) (ho:o=48) :
  FN 58 [.agg (Qax x pc c),.agg (iv o A B C m)] [] (. =⟨.tup [.agg (Qax (exX x pc c o A B C m) (exP x pc c o A B m) (exC x pc c o A m)),.agg (exE x o A m)],[],[]⟩):=by
 have eX:exX x pc c o A B C m=QaD x A (w32 ((pc:Int)+4)):=Qn8;have eP:exP x pc c o A B m=w32 ((pc:Int)+w32 (4*(w32 m:Nat))):=by unfold exP;rw [zN (by omega),zP (by omega)]
 have eC:exC x pc c o A m=c:=Qcg;have eE:exE x o A m= [.i 0,.i 0,.i 0,.u (0:Nat)]:=Qd0;rw [eX,eP,eC,eE];have rA:=Qav x pc c A hx hA;have rB:=Qav x pc c B hx hB;have rC:=Qav x pc c C hx hC;have gp:=QaB x pc c hx;have qm:IntKind.u32.wrap m=((w32 m:Nat):Int):=Qau m;have q4:IntKind.u32.wrap ((pc:Int)+4)=((w32 ((pc:Int)+4):Nat):Int):=Qau _;have xA:=Qab hY A;have xB:=Qab hY B;have xC:=Qab hY C;have lm:=QaF m;have hl:=Qaq x pc c hx hc;have hs:=Qam x pc c;have hk:=Qai x pc c;have yR:=Qaj hl;obtain ⟨V,hV⟩:∃ V,w32 ((pc:Int)+4)=V:=⟨_,rfl⟩;obtain ⟨PP,qX⟩:∃ PP,w32 ((pc:Int)+w32 (4*(w32 m:Nat)))=PP:=⟨_,rfl⟩;rw [hV,qX];rw [hV] at q4;have q4m:IntKind.u32.wrap (4*((w32 m:Nat):Int))=((w32 (4*(w32 m:Nat)):Nat):Int):=Qau _;have qT:IntKind.u32.wrap ((pc:Int)+((w32 (4*(w32 m:Nat)):Nat):Int))=(PP:Int):=by rw [Qau,qX]
 have gN:=QhK x pc c A V hx hc hA;have hl2:=Qaq (QaD x A V) pc c (by rw [Qay];exact hx) hc;have gY:=Qam (QaD x A V) pc c;have jE:=Qai (QaD x A V) pc c;have wT:QaC (Qax x pc c) 0 (Qax (QaD x A V) pc c)=Qax (QaD x A V) pc c:=Qcc (by omega);have jC:=QaN (QaD x A V) pc c PP (by rw [Qay];exact hx);have jG:=Qaq (QaD x A V) PP c (by rw [Qay];exact hx) hc;have fI:=Qam (QaD x A V) PP c;have yJ:=Qai (QaD x A V) PP c;have zG:=Qaj jG;have gp2:=QaB (QaD x A V) pc c (by rw [Qay];exact hx);generalize Qax (QaD x A V) PP c=C3,Qax (QaD x A V) pc c=C2 at *;clear eX eP eC eE hY gA hm;generalize x.getD A 0=vA,x.getD B 0=vB,x.getD C 0=vC,w32 (4*((w32 m:Nat):Int))=m4,Qax x pc c=CC at *;generalize w32 m=mm,w32 ((pc:Int)+4)=p4 at *;refine fnW Tryz.func58 ?_;(repeat' ((conv=>whnf);first|exact zi2|(refine zj0 ?_;intro hb)|((with_reducible apply Ge.mk (α:=SV)); . first|exact rA|exact rB|exact gp|exact gp2)|refine QE8 ?_|refine QuY ?_|refine QH4 ?_|refine zq5 ?_|(refine zpu gN ?_)|refine zse ?_|refine zbb ?_ ?_))
 all_goals exact zF_
theorem Qtv (x:List Nat) (pc:Nat) (c:List Nat) (o:Int) (A B C:Nat) (m:Int) (hx:x.length=16) (hc:c.length=8) (hY:ZL x) (gA:ZL c) (gQ:pc<4294967296) (hA:A<16) (hB:B<16) (hC:C<16) (hm:o=58->0<=m/\m<8) (gB: -32768<=m/\m<=65535) (ho:o=49) :
  FN 58 [.agg (Qax x pc c),.agg (iv o A B C m)] [] (. =⟨.tup [.agg (Qax (exX x pc c o A B C m) (exP x pc c o A B m) (exC x pc c o A m)),.agg (exE x o A m)],[],[]⟩):=by
 have eX:exX x pc c o A B C m=QaD x A (w32 ((pc:Int)+4)):=Qn8;have eP:exP x pc c o A B m=w32 ((x.getD B 0:Nat)+(w32 m:Nat)):=by unfold exP;rw [zN (by omega),zN (by omega),zP (by omega)]
 have eC:exC x pc c o A m=c:=Qcg;have eE:exE x o A m= [.i 0,.i 0,.i 0,.u (0:Nat)]:=Qd0;rw [eX,eP,eC,eE];have rA:=Qav x pc c A hx hA;have rB:=Qav x pc c B hx hB;have rC:=Qav x pc c C hx hC;have gp:=QaB x pc c hx;have qm:IntKind.u32.wrap m=((w32 m:Nat):Int):=Qau m;have q4:IntKind.u32.wrap ((pc:Int)+4)=((w32 ((pc:Int)+4):Nat):Int):=Qau _;have xA:=Qab hY A;have xB:=Qab hY B;have xC:=Qab hY C;have lm:=QaF m;have hl:=Qaq x pc c hx hc;have hs:=Qam x pc c;have hk:=Qai x pc c;have yR:=Qaj hl;obtain ⟨V,hV⟩:∃ V,w32 ((pc:Int)+4)=V:=⟨_,rfl⟩;obtain ⟨PP,qX⟩:∃ PP,w32 ((x.getD B 0:Nat)+(w32 m:Nat))=PP:=⟨_,rfl⟩;rw [hV,qX];rw [hV] at q4;have qT:IntKind.u32.wrap (((x.getD B 0:Nat):Int)+((w32 m:Nat):Int))=(PP:Int):=by rw [Qau,qX]
 have gN:=QhK x pc c A V hx hc hA;have hl2:=Qaq (QaD x A V) pc c (by rw [Qay];exact hx) hc;have gY:=Qam (QaD x A V) pc c;have jE:=Qai (QaD x A V) pc c;have wT:QaC (Qax x pc c) 0 (Qax (QaD x A V) pc c)=Qax (QaD x A V) pc c:=Qcc (by omega);have jC:=QaN (QaD x A V) pc c PP (by rw [Qay];exact hx);have jG:=Qaq (QaD x A V) PP c (by rw [Qay];exact hx) hc;have fI:=Qam (QaD x A V) PP c;have yJ:=Qai (QaD x A V) PP c;have zG:=Qaj jG;have gp2:=QaB (QaD x A V) pc c (by rw [Qay];exact hx);generalize Qax (QaD x A V) PP c=C3,Qax (QaD x A V) pc c=C2 at *;clear eX eP eC eE hY gA hm;generalize x.getD A 0=vA,x.getD B 0=vB,x.getD C 0=vC at *;skip;generalize Qax x pc c=CC,w32 m=mm,w32 ((pc:Int)+4)=p4 at *;refine fnW Tryz.func58 ?_;(repeat' ((conv=>whnf);first|exact zi2|(refine zj0 ?_;intro hb)|refine QE6 ?_|(with_reducible first|refine zv qm ?_|refine zv q4 ?_|refine zv qT ?_)|refine QuY ?_|refine QH4 ?_|refine zq5 ?_|(refine zpu gN ?_)|refine zse ?_|refine zbb ?_ ?_))
 all_goals exact zF_
theorem Qtr (x:List Nat) (pc:Nat) (c:List Nat) (o:Int) (A B C:Nat) (m:Int) (hx:x.length=16) (hc:c.length=8) (hY:ZL x) (gA:ZL c) (gQ:pc<4294967296) (hA:A<16) (hB:B<16) (hC:C<16) (hm:o=58->0<=m/\m<8) (gB: -32768<=m/\m<=65535) (ho:o=58) :
  FN 58 [.agg (Qax x pc c),.agg (iv o A B C m)] [] (. =⟨.tup [.agg (Qax (exX x pc c o A B C m) (exP x pc c o A B m) (exC x pc c o A m)),.agg (exE x o A m)],[],[]⟩):=by
 have eX:exX x pc c o A B C m=QaD x A (c.getD m.toNat 0):=QD1;have eP:exP x pc c o A B m=w32 ((pc:Int)+4):=Qdd;have eC:exC x pc c o A m=c:=Qcg;have eE:exE x o A m= [.i 0,.i 0,.i 0,.u (0:Nat)]:=Qd0;rw [eX,eP,eC,eE];have rA:=Qav x pc c A hx hA;have rB:=Qav x pc c B hx hB;have rC:=Qav x pc c C hx hC;have gp:=QaB x pc c hx;have qm:IntKind.u32.wrap m=((w32 m:Nat):Int):=Qau m;have q4:IntKind.u32.wrap ((pc:Int)+4)=((w32 ((pc:Int)+4):Nat):Int):=Qau _;have xA:=Qab hY A;have xB:=Qab hY B;have xC:=Qab hY C;have lm:=QaF m;have hl:=Qaq x pc c hx hc;have hs:=Qam x pc c;have hk:=Qai x pc c;have yR:=Qaj hl;obtain ⟨V,hV⟩:∃ V,c.getD m.toNat 0=V:=⟨_,rfl⟩;obtain ⟨PP,qX⟩:∃ PP,w32 ((pc:Int)+4)=PP:=⟨_,rfl⟩;rw [hV,qX];rw [qX] at q4;have hm8:=hm ho;have rM:=Qdn x pc c m.toNat hx hc (by omega);rw [hV] at rM;have gN:=QhK x pc c A V hx hc hA;have hl2:=Qaq (QaD x A V) pc c (by rw [Qay];exact hx) hc;have gY:=Qam (QaD x A V) pc c;have jE:=Qai (QaD x A V) pc c;have wT:QaC (Qax x pc c) 0 (Qax (QaD x A V) pc c)=Qax (QaD x A V) pc c:=Qcc (by omega);have jC:=QaN (QaD x A V) pc c PP (by rw [Qay];exact hx);have jG:=Qaq (QaD x A V) PP c (by rw [Qay];exact hx) hc;have fI:=Qam (QaD x A V) PP c;have yJ:=Qai (QaD x A V) PP c;have zG:=Qaj jG;have gp2:=QaB (QaD x A V) pc c (by rw [Qay];exact hx);generalize Qax (QaD x A V) PP c=C3,Qax (QaD x A V) pc c=C2 at *;clear eX eP eC eE hY gA hm;generalize x.getD A 0=vA,x.getD B 0=vB,x.getD C 0=vC at *;skip;generalize Qax x pc c=CC,w32 m=mm,w32 ((pc:Int)+4)=p4 at *;refine fnW Tryz.func58 ?_;(repeat' ((conv=>whnf);first|exact zi2|(refine zj0 ?_;intro hb)|((with_reducible apply Ge.mk (α:=SV)); . first|exact rA|exact rB|exact gp|exact rM)|refine QzO ?_|refine QuY ?_|refine QH4 ?_|(apply Sd.mk; . first|exact ⟨jG,yJ,rfl,(by show 0+C3.length<=25;omega)⟩|exact ⟨hl2,jE,rfl,(by show 0+C2.length<=CC.length;omega)⟩|(refine ⟨rfl,rfl,rfl,?_⟩;show 16+1<=C2.length;omega)|(show (0:Int)<=A/\(A:Int)<16;omega)|(show (0:Int)<=B/\(B:Int)<16;omega)|(show (0:Int)<=m/\m<(8:Int);omega))|(refine zpu gN ?_)|refine zse ?_|refine zbb ?_ ?_))
 all_goals exact zF_
theorem QkQ (x:List Nat) (pc:Nat) (c:List Nat) (o:Int) (A B C:Nat) (m:Int) (hx:x.length=16) (hc:c.length=8) (hY:ZL x) (gA:ZL c) (gQ:pc<4294967296) (hA:A<16) (hB:B<16) (hC:C<16) (hm:o=58->0<=m/\m<8) (gB: -32768<=m/\m<=65535) (ho:(40<=o/\o<=45)/\Qdf o (x.getD A 0) (x.getD B 0)=true) :
  FN 58 [.agg (Qax x pc c),.agg (iv o A B C m)] [] (. =⟨.tup [.agg (Qax (exX x pc c o A B C m) (exP x pc c o A B m) (exC x pc c o A m)),.agg (exE x o A m)],[],[]⟩):=by
 have eX:exX x pc c o A B C m=x:=QcK;have eP:exP x pc c o A B m=w32 ((pc:Int)+w32 (4*(w32 m:Nat))):=Qvb;have eC:exC x pc c o A m=c:=Qcg;have eE:exE x o A m= [.i 0,.i 0,.i 0,.u (0:Nat)]:=Qd0;rw [eX,eP,eC,eE];have rA:=Qav x pc c A hx hA;have rB:=Qav x pc c B hx hB;have rC:=Qav x pc c C hx hC;have gp:=QaB x pc c hx;have qm:IntKind.u32.wrap m=((w32 m:Nat):Int):=Qau m;have q4:IntKind.u32.wrap ((pc:Int)+4)=((w32 ((pc:Int)+4):Nat):Int):=Qau _;have xA:=Qab hY A;have xB:=Qab hY B;have xC:=Qab hY C;have lm:=QaF m;have hl:=Qaq x pc c hx hc;have hs:=Qam x pc c;have hk:=Qai x pc c;have yR:=Qaj hl;obtain ⟨PP,qX⟩:∃ PP,w32 ((pc:Int)+w32 (4*(w32 m:Nat)))=PP:=⟨_,rfl⟩;rw [qX];have jW:=QmJ o (x.getD A 0) (x.getD B 0) xA xB;have q4m:IntKind.u32.wrap (4*((w32 m:Nat):Int))=((w32 (4*(w32 m:Nat)):Nat):Int):=Qau _;rw [ho.2] at jW;have qT:IntKind.u32.wrap ((pc:Int)+((w32 (4*(w32 m:Nat)):Nat):Int))=(PP:Int):=by rw [Qau,qX]
 replace ho:=ho.1;have jC:=QaN x pc c PP hx;have jG:=Qaq x PP c hx hc;have fI:=Qam x PP c;have yJ:=Qai x PP c;have zG:=Qaj jG;generalize Qax x PP c=C3 at *;clear eX eP eC eE hY gA hm;generalize x.getD A 0=vA,x.getD B 0=vB,x.getD C 0=vC,w32 (4*((w32 m:Nat):Int))=m4,Qax x pc c=CC at *;generalize w32 m=mm,w32 ((pc:Int)+4)=p4 at *;refine fnW Tryz.func58 ?_;(repeat' ((conv=>whnf);first|exact zi2|(refine zj0 ?_;intro hb)|refine QE6 ?_|refine QE8 ?_|refine QDh ?_|(apply Sg.mk; . exact Qa6 C3 jG)|refine QE4 ?_|(refine zpu jW ?_)|refine zse ?_|refine zbb ?_ ?_))
 all_goals exact zF_
theorem Qjk (x:List Nat) (pc:Nat) (c:List Nat) (o:Int) (A B C:Nat) (m:Int) (hx:x.length=16) (hc:c.length=8) (hY:ZL x) (gA:ZL c) (gQ:pc<4294967296) (hA:A<16) (hB:B<16) (hC:C<16) (hm:o=58->0<=m/\m<8) (gB: -32768<=m/\m<=65535) (ho:(40<=o/\o<=45)/\Qdf o (x.getD A 0) (x.getD B 0)=false) :
  FN 58 [.agg (Qax x pc c),.agg (iv o A B C m)] [] (. =⟨.tup [.agg (Qax (exX x pc c o A B C m) (exP x pc c o A B m) (exC x pc c o A m)),.agg (exE x o A m)],[],[]⟩):=by
 have eX:exX x pc c o A B C m=x:=QcK;have eP:exP x pc c o A B m=w32 ((pc:Int)+4):=Qvb;have eC:exC x pc c o A m=c:=Qcg;have eE:exE x o A m= [.i 0,.i 0,.i 0,.u (0:Nat)]:=Qd0;rw [eX,eP,eC,eE];have rA:=Qav x pc c A hx hA;have rB:=Qav x pc c B hx hB;have rC:=Qav x pc c C hx hC;have gp:=QaB x pc c hx;have qm:IntKind.u32.wrap m=((w32 m:Nat):Int):=Qau m;have q4:IntKind.u32.wrap ((pc:Int)+4)=((w32 ((pc:Int)+4):Nat):Int):=Qau _;have xA:=Qab hY A;have xB:=Qab hY B;have xC:=Qab hY C;have lm:=QaF m;have hl:=Qaq x pc c hx hc;have hs:=Qam x pc c;have hk:=Qai x pc c;have yR:=Qaj hl;obtain ⟨PP,qX⟩:∃ PP,w32 ((pc:Int)+4)=PP:=⟨_,rfl⟩;rw [qX];rw [qX] at q4;have jW:=QmJ o (x.getD A 0) (x.getD B 0) xA xB;have q4m:IntKind.u32.wrap (4*((w32 m:Nat):Int))=((w32 (4*(w32 m:Nat)):Nat):Int):=Qau _;rw [ho.2] at jW;replace ho:=ho.1;have jC:=QaN x pc c PP hx;have jG:=Qaq x PP c hx hc;have fI:=Qam x PP c;have yJ:=Qai x PP c;have zG:=Qaj jG;generalize Qax x PP c=C3 at *;clear eX eP eC eE hY gA hm;generalize x.getD A 0=vA,x.getD B 0=vB,x.getD C 0=vC,w32 (4*((w32 m:Nat):Int))=m4,Qax x pc c=CC at *;generalize w32 m=mm,w32 ((pc:Int)+4)=p4 at *;refine fnW Tryz.func58 ?_;(repeat' ((conv=>whnf);first|exact zi2|(refine zj0 ?_;intro hb)|refine QE6 ?_|refine QzO ?_|refine QDh ?_|(apply Sg.mk; . exact Qa6 C3 jG)|refine QE4 ?_|(refine zpu jW ?_)|refine zse ?_|refine zbb ?_ ?_))
 all_goals exact zF_
theorem QpX (x:List Nat) (pc:Nat) (c:List Nat) (o:Int) (A B C:Nat) (m:Int) (hx:x.length=16) (hc:c.length=8) (hY:ZL x) (gA:ZL c) (gQ:pc<4294967296) (hA:A<16) (hB:B<16) (hC:C<16) (hm:o=58->0<=m/\m<8) (gB: -32768<=m/\m<=65535) (ho:o=56) :
  FN 58 [.agg (Qax x pc c),.agg (iv o A B C m)] [] (. =⟨.tup [.agg (Qax (exX x pc c o A B C m) (exP x pc c o A B m) (exC x pc c o A m)),.agg (exE x o A m)],[],[]⟩):=by
 have eX:exX x pc c o A B C m=x:=QcK;have eP:exP x pc c o A B m=c.getD 1 0:=QD6;have eC:exC x pc c o A m=trL pc c 7 0:=by unfold exC;rw [zP (by omega)]
 have eE:exE x o A m= [.i 0,.i 0,.i 0,.u (0:Nat)]:=Qd0;rw [eX,eP,eC,eE];have rA:=Qav x pc c A hx hA;have rB:=Qav x pc c B hx hB;have rC:=Qav x pc c C hx hC;have gp:=QaB x pc c hx;have qm:IntKind.u32.wrap m=((w32 m:Nat):Int):=Qau m;have q4:IntKind.u32.wrap ((pc:Int)+4)=((w32 ((pc:Int)+4):Nat):Int):=Qau _;have xA:=Qab hY A;have xB:=Qab hY B;have xC:=Qab hY C;have lm:=QaF m;have hl:=Qaq x pc c hx hc;have hs:=Qam x pc c;have hk:=Qai x pc c;have yR:=Qaj hl;have fQ:=Qes x pc c 7 0 hx hc gA;rw [Qbl] at fQ;have fI:=Qam x (c.getD 1 0) (trL pc c 7 0);have jG:=Qaq x (c.getD 1 0) (trL pc c 7 0) hx rfl;have yJ:=Qai x (c.getD 1 0) (trL pc c 7 0);have zG:=Qaj jG;generalize Qax x (c.getD 1 0) (trL pc c 7 0)=C3 at *;exact QuZ
theorem Qtt (x:List Nat) (pc:Nat) (c:List Nat) (o:Int) (A B C:Nat) (m:Int) (hx:x.length=16) (hc:c.length=8) (hY:ZL x) (gA:ZL c) (gQ:pc<4294967296) (hA:A<16) (hB:B<16) (hC:C<16) (hm:o=58->0<=m/\m<8) (gB: -32768<=m/\m<=65535) (ho:o=57) :
  FN 58 [.agg (Qax x pc c),.agg (iv o A B C m)] [] (. =⟨.tup [.agg (Qax (exX x pc c o A B C m) (exP x pc c o A B m) (exC x pc c o A m)),.agg (exE x o A m)],[],[]⟩):=by
 have eX:exX x pc c o A B C m=x:=QcK;have eP:exP x pc c o A B m=c.getD 2 0:=QD2;have eC:exC x pc c o A m=c.set 0 (QgR (c.getD 0 0)):=by unfold exC;rw [zN (by omega),zP (by omega)]
 have eE:exE x o A m= [.i 0,.i 0,.i 0,.u (0:Nat)]:=Qd0;rw [eX,eP,eC,eE];have rA:=Qav x pc c A hx hA;have rB:=Qav x pc c B hx hB;have rC:=Qav x pc c C hx hC;have gp:=QaB x pc c hx;have qm:IntKind.u32.wrap m=((w32 m:Nat):Int):=Qau m;have q4:IntKind.u32.wrap ((pc:Int)+4)=((w32 ((pc:Int)+4):Nat):Int):=Qau _;have xA:=Qab hY A;have xB:=Qab hY B;have xC:=Qab hY C;have lm:=QaF m;have hl:=Qaq x pc c hx hc;have hs:=Qam x pc c;have hk:=Qai x pc c;have yR:=Qaj hl;have fQ:=QCw x pc c hx hc gA;unfold QEX at fQ;have fI:=Qam x (c.getD 2 0) (c.set 0 (QgR (c.getD 0 0)));have jG:=Qaq x (c.getD 2 0) (c.set 0 (QgR (c.getD 0 0))) hx (by simpa using hc);have yJ:=Qai x (c.getD 2 0) (c.set 0 (QgR (c.getD 0 0)));have zG:=Qaj jG;generalize Qax x (c.getD 2 0) (c.set 0 (QgR (c.getD 0 0)))=C3 at *;exact QuZ
theorem Qts (x:List Nat) (pc:Nat) (c:List Nat) (o:Int) (A B C:Nat) (m:Int) (hx:x.length=16) (hc:c.length=8) (hY:ZL x) (gA:ZL c) (gQ:pc<4294967296) (hA:A<16) (hB:B<16) (hC:C<16) (hm:o=58->0<=m/\m<8) (gB: -32768<=m/\m<=65535) (ho:o=59) :
  FN 58 [.agg (Qax x pc c),.agg (iv o A B C m)] [] (. =⟨.tup [.agg (Qax (exX x pc c o A B C m) (exP x pc c o A B m) (exC x pc c o A m)),.agg (exE x o A m)],[],[]⟩):=by
 have eX:exX x pc c o A B C m=x:=QcK;have eP:exP x pc c o A B m=w32 ((pc:Int)+4):=Qdd;have eC:exC x pc c o A m=wrL c m (x.getD A 0):=by unfold exC;rw [zN (by omega),zN (by omega),zP (by omega)]
 have eE:exE x o A m= [.i 0,.i 0,.i 0,.u (0:Nat)]:=Qd0;rw [eX,eP,eC,eE];have rA:=Qav x pc c A hx hA;have rB:=Qav x pc c B hx hB;have rC:=Qav x pc c C hx hC;have gp:=QaB x pc c hx;have qm:IntKind.u32.wrap m=((w32 m:Nat):Int):=Qau m;have q4:IntKind.u32.wrap ((pc:Int)+4)=((w32 ((pc:Int)+4):Nat):Int):=Qau _;have xA:=Qab hY A;have xB:=Qab hY B;have xC:=Qab hY C;have lm:=QaF m;have hl:=Qaq x pc c hx hc;have hs:=Qam x pc c;have hk:=Qai x pc c;have yR:=Qaj hl;have gN:=QuV x pc c m (x.getD A 0) hx hc xA;rw [Qwf] at gN;have hl2:=Qaq x pc (wrL c m (x.getD A 0)) hx (by rw [Qg8];exact hc);have gY:=Qam x pc (wrL c m (x.getD A 0));have jE:=Qai x pc (wrL c m (x.getD A 0));have wT:QaC (Qax x pc c) 0 (Qax x pc (wrL c m (x.getD A 0)))=Qax x pc (wrL c m (x.getD A 0)):=Qcc (by omega);have jC:=QaN x pc (wrL c m (x.getD A 0)) (w32 ((pc:Int)+4)) hx;have jG:=Qaq x (w32 ((pc:Int)+4)) (wrL c m (x.getD A 0)) hx (by rw [Qg8];exact hc);have fI:=Qam x (w32 ((pc:Int)+4)) (wrL c m (x.getD A 0));have yJ:=Qai x (w32 ((pc:Int)+4)) (wrL c m (x.getD A 0));have zG:=Qaj jG;have gp2:=QaB x pc (wrL c m (x.getD A 0)) hx;generalize Qax x (w32 ((pc:Int)+4)) (wrL c m (x.getD A 0))=C3,Qax x pc (wrL c m (x.getD A 0))=C2 at *;clear eX eP eC eE hY gA hm;generalize x.getD A 0=vA,x.getD B 0=vB,x.getD C 0=vC at *;skip;generalize Qax x pc c=CC,w32 m=mm,w32 ((pc:Int)+4)=p4 at *;refine fnW Tryz.func58 ?_;(repeat' ((conv=>whnf);first|exact zi2|(refine zj0 ?_;intro hb)|refine QE6 ?_|(with_reducible first|refine zv qm ?_|refine zv q4 ?_|refine zv (Qb1 (by omega) (by omega)) ?_)|refine QuY ?_|refine QH4 ?_|refine zq5 ?_|(refine zpu gN ?_)|refine zse ?_|refine zbb ?_ ?_))
 all_goals exact zF_
theorem QBs (x:List Nat) (pc:Nat) (c:List Nat) (o:Int) (A B C:Nat) (m:Int) (hx:x.length=16) (hc:c.length=8) (hY:ZL x) (gA:ZL c) (gQ:pc<4294967296) (hA:A<16) (hB:B<16) (hC:C<16) (hm:o=58->0<=m/\m<8) (gB: -32768<=m/\m<=65535) (ho:o=60) :
  FN 58 [.agg (Qax x pc c),.agg (iv o A B C m)] [] (. =⟨.tup [.agg (Qax (exX x pc c o A B C m) (exP x pc c o A B m) (exC x pc c o A m)),.agg (exE x o A m)],[],[]⟩):=by
 have eX:exX x pc c o A B C m=x:=QcK;have eP:exP x pc c o A B m=w32 ((pc:Int)+4):=Qdd;have eC:exC x pc c o A m=c:=Qcg;have eE:exE x o A m= [.i 1,.i m,.i (A:Nat),.u (0:Nat)]:=by unfold exE;rw [zP (by omega)]
 exact QDG
theorem Qxq (x:List Nat) (pc:Nat) (c:List Nat) (o:Int) (A B C:Nat) (m:Int) (hx:x.length=16) (hc:c.length=8) (hY:ZL x) (gA:ZL c) (gQ:pc<4294967296) (hA:A<16) (hB:B<16) (hC:C<16) (hm:o=58->0<=m/\m<8) (gB: -32768<=m/\m<=65535) (ho:o=61) :
  FN 58 [.agg (Qax x pc c),.agg (iv o A B C m)] [] (. =⟨.tup [.agg (Qax (exX x pc c o A B C m) (exP x pc c o A B m) (exC x pc c o A m)),.agg (exE x o A m)],[],[]⟩):=by
 have eX:exX x pc c o A B C m=x:=QcK;have eP:exP x pc c o A B m=w32 ((pc:Int)+4):=Qdd;have eC:exC x pc c o A m=c:=Qcg;have eE:exE x o A m= [.i 2,.i m,.i 0,.u (x.getD A 0:Nat)]:=by unfold exE;rw [zN (by omega),zP (by omega)]
 exact QDG
theorem Qxr (x:List Nat) (pc:Nat) (c:List Nat) (o:Int) (A B C:Nat) (m:Int) (hx:x.length=16) (hc:c.length=8) (hY:ZL x) (gA:ZL c) (gQ:pc<4294967296) (hA:A<16) (hB:B<16) (hC:C<16) (hm:o=58->0<=m/\m<8) (gB: -32768<=m/\m<=65535) (ho:o=62) :
  FN 58 [.agg (Qax x pc c),.agg (iv o A B C m)] [] (. =⟨.tup [.agg (Qax (exX x pc c o A B C m) (exP x pc c o A B m) (exC x pc c o A m)),.agg (exE x o A m)],[],[]⟩):=by
 have eX:exX x pc c o A B C m=x:=QcK;have eP:exP x pc c o A B m=w32 ((pc:Int)+4):=Qdd;have eC:exC x pc c o A m=c:=Qcg;have eE:exE x o A m= [.i 3,.i 0,.i 0,.u (0:Nat)]:=by unfold exE;rw [zN (by omega),zN (by omega),zP (by omega)]
 exact QDG
theorem QpY (x:List Nat) (pc:Nat) (c:List Nat) (o:Int) (A B C:Nat) (m:Int) (hx:x.length=16) (hc:c.length=8) (hY:ZL x) (gA:ZL c) (gQ:pc<4294967296) (hA:A<16) (hB:B<16) (hC:C<16) (hm:o=58->0<=m/\m<8) (gB: -32768<=m/\m<=65535) (ho:o=63) :
  FN 58 [.agg (Qax x pc c),.agg (iv o A B C m)] [] (. =⟨.tup [.agg (Qax (exX x pc c o A B C m) (exP x pc c o A B m) (exC x pc c o A m)),.agg (exE x o A m)],[],[]⟩):=by
 have eX:exX x pc c o A B C m=x:=QcK;have eP:exP x pc c o A B m=w32 ((pc:Int)+4):=Qdd;have eC:exC x pc c o A m=c:=Qcg;have eE:exE x o A m= [.i 5,.i 0,.i 0,.u (0:Nat)]:=Qz2;exact QDG
theorem Qtu (x:List Nat) (pc:Nat) (c:List Nat) (o:Int) (A B C:Nat) (m:Int) (hx:x.length=16) (hc:c.length=8) (hY:ZL x) (gA:ZL c) (gQ:pc<4294967296) (hA:A<16) (hB:B<16) (hC:C<16) (hm:o=58->0<=m/\m<8) (gB: -32768<=m/\m<=65535) (ho:o=64) :
  FN 58 [.agg (Qax x pc c),.agg (iv o A B C m)] [] (. =⟨.tup [.agg (Qax (exX x pc c o A B C m) (exP x pc c o A B m) (exC x pc c o A m)),.agg (exE x o A m)],[],[]⟩):=by
 have eX:exX x pc c o A B C m=x:=QcK;have eP:exP x pc c o A B m=w32 ((pc:Int)+4):=Qdd;have eC:exC x pc c o A m=c:=Qcg;have eE:exE x o A m= [.i 4,.i 0,.i 0,.u (0:Nat)]:=QlK;exact QDG
theorem QhF {xs:List Nat} {n s r va:Nat} {sz ac:Int} (h:rsK xs n s r va sz ac=0):rsO xs n s r va sz ac=true:=by
 unfold rsK at h;split at h
 .assumption
 .split at h
  .omega
  .split at h
   .unfold Qct at h;split at h;omega;split at h<;>omega
   .omega
theorem QhE {xs:List Nat} {n s r va:Nat} {sz ac:Int} (h:rsO xs n s r va sz ac=true) (gX:va<4294967296):acB sz n (rsA xs n s r va sz ac)=true/\rsA xs n s r va sz ac<4294967296:=by
 have h0:=h;unfold rsO at h;simp only [zba,zde] at h;obtain ⟨⟨⟨_,h2⟩,_⟩,h4⟩:=h;unfold rsA;rw [h0,zP rfl]
 cases hp:Qdb s with
 | false =>
  rw [hp,zN (by decide)] at h4;rw [zN (by decide)];exact ⟨h4,gX⟩
 | true =>
  rw [hp,zP rfl] at h4;rw [zP rfl];unfold Qbm at h4;simp only [zba,zde] at h4;have hm:=QaS n;have hf:=h4.2;unfold szB at h2;simp only [zde] at h2;generalize frW (QaQ xs r va)=f at *;refine ⟨?_,by omega⟩;unfold acB;rcases h2 with rfl|rfl
  .rw [zN (by decide)]
   unfold ld1;exact zdt (by omega)
  .rw [zP rfl]
   unfold ld4;rw [zdt (by omega),zdt (by omega)];rfl
def ftW (xs:List Nat) (n s r pc:Nat):Nat:=if rsK xs n s r pc 4 1=0 then (rsM xs n s r pc 4 1).getD (rsA xs n s r pc 4 1 / 4) 0 else 0
theorem Qqh (xs:List Nat) (n s r pc:Nat) (hY:ZL xs):ftW xs n s r pc<4294967296:=by
 unfold ftW;split
 .exact Qab (Qc6 xs n s r pc 4 1 hY) _
 .decide
theorem QoS (x:List Nat) (pc:Nat) (c:List Nat) (xs:List Nat) (n:Nat) (hx:x.length=16) (hc:c.length=8) (gK:ZL c) (gQ:pc<4294967296) (hl:xs.length=n) (hY:ZL xs) (hn:n<4294967296) :
  FN 52 [.agg (Qax x pc c),.s (.sl 0 0 n)] [⟨false,1,wsv xs⟩]
   (. =⟨.tup [.s (.u (ftW xs n (c.getD 0 0) (c.getD 6 0) pc:Nat)),.s (.sl 1 0 n),.s (.i (rsK xs n (c.getD 0 0) (c.getD 6 0) pc 4 1))],[],[⟨true,1,wsv (rsM xs n (c.getD 0 0) (c.getD 6 0) pc 4 1)⟩]⟩):=by
 have hr:=Qea x pc c xs n pc 4 1 hx hc gK hl hY hn gQ;have gS:=Qaq (x) (pc) (c) hx hc;have jM:=Qam (x) (pc) (c);have qU:=Qai (x) (pc) (c);have qY:=Qaj gS;have gpCC:=QaB (x) (pc) (c) hx;generalize c.getD 0 0=S,c.getD 6 0=R at *;have gL:=Qaa xs;have GV:=Qaa (rsM xs n S R pc 4 1);unfold ftW
 by_cases hK:rsK xs n S R pc 4 1=0
 .have hok:=QhF hK
  obtain ⟨ha,wP⟩:=QhE hok gQ;have qK:=Qb8 (rsM xs n S R pc 4 1) n (rsA xs n S R pc 4 1) (by rw [Qbh];exact hl) hn wP ha;rw [zP hK];rw [hK] at hr |-;generalize rsA xs n S R pc 4 1=AA at *;generalize (rsM xs n S R pc 4 1).getD (AA / 4) 0=W,wsv (rsM xs n S R pc 4 1)=XM,wsv xs=XX,Qax (x) (pc) (c)=CC at *;refine fnW Tryz.func52 ?_;(repeat' ((conv=>whnf);first|exact zi2|(refine zj0 ?_;intro hb)|(apply Sg.mk; . first|exact Qa6 CC gS)|((with_reducible apply Ge.mk (α:=SV)); . first|exact gpCC)|(refine Qaz hr ?_)|(refine Qaz qK ?_)|refine zse ?_|refine zbb ?_ ?_))
  all_goals exact Qet
 .rw [zN hK]
  generalize rsK xs n S R pc 4 1=K,rsA xs n S R pc 4 1=AA,wsv (rsM xs n S R pc 4 1)=XM,wsv xs=XX,Qax (x) (pc) (c)=CC at *;refine fnW Tryz.func52 ?_;(repeat' ((conv=>whnf);first|exact zi2|(refine zj0 ?_;intro hb)|(apply Sg.mk; . first|exact Qa6 CC gS)|((with_reducible apply Ge.mk (α:=SV)); . first|exact gpCC)|(refine Qaz hr ?_)|refine zse ?_|refine zbb ?_ ?_))
  all_goals exact Qet
def wd (o:Int):Int:=if o=32\/o=35 then 4 else 1
theorem QmS (o:Int) (h:32<=o/\o<=36):FN 120 [.s (.i o)] [] (. =⟨.a (.s (.i (wd o))),[],[]⟩):=by
 have e:o=32\/o=33\/o=34\/o=35\/o=36:=by omega
 rcases e with rfl|rfl|rfl|rfl|rfl
 all_goals
  refine fnW Tryz.func120 ?_;(repeat' ((conv=>whnf);first|exact zi0|(refine zj0 ?_;intro hb)|refine zs0 ?_|refine zbb ?_ ?_));all_goals (conv=>whnf)
  all_goals exact Qan rfl rfl
def sx8 (x:Nat):Nat:=if x%256<128 then x%256 else x%256+4294967040
theorem QI8 (x:Nat) (hx:x<4294967296):IntKind.u32.wrap ((x:Int)*2^min ((32:Int)-8).toNat IntKind.u32.bits)=((x%256:Nat):Int)*16777216:=by
 rw [show (2:Int)^min ((32:Int)-8).toNat IntKind.u32.bits=16777216 from rfl,Qcf];omega
theorem QI9 (x:Nat) (hx:x<256):IntKind.i32.wrap ((x:Int)*16777216)=(if x<128 then (x:Int) else x-256)*16777216:=by
 unfold IntKind.wrap;simp only [IntKind.signed,IntKind.bits,Bool.true_and,zde]
 by_cases h:x<128
 .rw [zP h,zN (by simp;omega)];omega
 .rw [zN h,zP (by simp;omega)];omega
theorem QJa (x:Int):x*16777216 / 2^min ((32:Int)-8).toNat IntKind.i32.bits=x:=by
 rw [show (2:Int)^min ((32:Int)-8).toNat IntKind.i32.bits=16777216 from rfl];omega
theorem QJb (x:Nat):IntKind.u32.wrap (if x%256<128 then ((x%256:Nat):Int) else ((x%256:Nat):Int)-256)=(sx8 x:Nat):=by
 unfold sx8;rw [Qcf]
 by_cases h:x%256<128
 .rw [zP h,zP h];omega
 .rw [zN h,zN h];omega
theorem QCN (x:Nat) (hx:x<4294967296):FN 118 [.s (.u x),.s (.i 8)] [] (. =⟨.a (.s (.u (sx8 x:Nat))),[],[]⟩):=by
 refine fnW Tryz.func118 ?_;(repeat' ((conv=>whnf);first|exact zi0|(refine zj0 ?_;intro hb)|((with_reducible apply Vl.mk (α:=Int)); . first|exact QI8 x hx|exact QI9 (x%256) (by omega)|exact QJa _|exact QJb x)|refine zs0 ?_|refine zbb ?_ ?_));all_goals (conv=>whnf)
 all_goals exact Qan rfl rfl
theorem QCO (x:Nat):sx8 x<4294967296:=by unfold sx8;split<;>omega
theorem QoN (w a:Nat):byN w a<256:=Nat.mod_lt _ (by decide)
def ldV (o:Int) (M:List Nat) (a:Nat):Nat:=if o=32 then M.getD (a / 4) 0 else if o=33 then sx8 (byN (M.getD (a / 4) 0) a) else byN (M.getD (a / 4) 0) a
theorem QvR (o:Int) (M:List Nat) (a:Nat) (h:ZL M):ldV o M a<4294967296:=by
 have:=Qab h (a / 4);have:=QoN (M.getD (a / 4) 0) a;have:=QCO (byN (M.getD (a / 4) 0) a);unfold ldV;split;assumption;split<;>omega
def stM (o:Int) (M:List Nat) (a v:Nat):List Nat:=if o=35 then M.set (a / 4) v else Qns M a v
theorem Qcs (o:Int) (M:List Nat) (a v:Nat):(stM o M a v).length=M.length:=by unfold stM Qns;split<;>simp
theorem QrY (o:Int) (M:List Nat) (a v:Nat) (h:ZL M) (hv:v<4294967296):∀ y∈stM o M a v,y<4294967296:=by
 unfold stM Qns;split
 .exact Qg0 h _ _ hv
 .exact Qg0 h _ _ (QCI _ _ _)
def vaO (x:List Nat) (B:Nat) (m:Int):Nat:=w32 ((x.getD B 0:Nat)+(w32 m:Nat))
def ldX (x:List Nat) (xs:List Nat) (n s r va:Nat) (o:Int) (A:Nat):List Nat:=if rsK xs n s r va (wd o) 2=0 then QaD x A (ldV o (rsM xs n s r va (wd o) 2) (rsA xs n s r va (wd o) 2)) else x
def trP (pc:Nat) (c:List Nat) (K:Int):Nat:=if K=0 then w32 ((pc:Int)+4) else c.getD 1 0
def trC (pc:Nat) (c:List Nat) (K:Int) (va:Nat):List Nat:=if K=0 then c else trL pc c K va
def stX (xs:List Nat) (n s r va v:Nat) (o:Int):List Nat:=if rsK xs n s r va (wd o) 3=0 then stM o (rsM xs n s r va (wd o) 3) (rsA xs n s r va (wd o) 3) v else rsM xs n s r va (wd o) 3
theorem Qs3 (x:List Nat) (pc:Nat) (c:List Nat) (xs:List Nat) (n:Nat) (o:Int) (A B C:Nat) (m:Int) (hx:x.length=16) (hc:c.length=8) (gK:ZL c) (gQ:pc<4294967296) (hl:xs.length=n) (hY:ZL xs) (hn:n<4294967296) (vG:ZL x) (hA:A<16) (hB:B<16) (ho:32<=o/\o<=34) :
  FN 56 [.agg (Qax x pc c),.s (.sl 0 0 n),.agg (iv o A B C m)] [⟨false,1,wsv xs⟩]
   (. =⟨.tup [.agg (Qax (ldX x xs n (c.getD 0 0) (c.getD 6 0) (vaO x B m) o A) (trP pc c (rsK xs n (c.getD 0 0) (c.getD 6 0) (vaO x B m) (wd o) 2)) (trC pc c (rsK xs n (c.getD 0 0) (c.getD 6 0) (vaO x B m) (wd o) 2) (vaO x B m))),.s (.sl 1 0 n)],[],[⟨true,1,wsv (rsM xs n (c.getD 0 0) (c.getD 6 0) (vaO x B m) (wd o) 2)⟩]⟩):=by
 have gX:vaO x B m<4294967296:=QaF _;have WY:=QmS o (by omega);have hr:=Qea x pc c xs n (vaO x B m) (wd o) 2 hx hc gK hl hY hn gX;have rA:=Qav x pc c A hx hA;have rB:=Qav x pc c B hx hB;have xA:=Qab vG A;have qm:IntKind.u32.wrap m=((w32 m:Nat):Int):=Qau m;have q4:IntKind.u32.wrap ((pc:Int)+4)=((w32 ((pc:Int)+4):Nat):Int):=Qau _;have qv:IntKind.u32.wrap (((x.getD B 0:Nat):Int)+((w32 m:Nat):Int))=((vaO x B m:Nat):Int):=Qau _;have gL:=Qaa xs;generalize c.getD 0 0=S,c.getD 6 0=R,vaO x B m=va at *;have gS:=Qaq (x) (pc) (c) hx hc;have jM:=Qam (x) (pc) (c);have qU:=Qai (x) (pc) (c);have qY:=Qaj gS;have gpCC:=QaB (x) (pc) (c) hx;have GV:=Qaa (rsM xs n S R va (wd o) 2);unfold ldX trP trC
 by_cases hK:rsK xs n S R va (wd o) 2=0
 .have hok:=QhF hK
  obtain ⟨ha,wP⟩:=QhE hok gX;have gI:(rsM xs n S R va (wd o) 2).length=n:=by rw [Qbh];exact hl
  have gB:=Qc6 xs n S R va (wd o) 2 hY;rw [zP hK,zP hK,zP hK];rw [hK] at hr;generalize rsM xs n S R va (wd o) 2=M,rsA xs n S R va (wd o) 2=AA at *
  obtain ⟨V0,qK,hV⟩:∃ V0,FN 115 [.s (.sl 0 0 n),.s (.u AA),.s (.i (wd o))] [⟨false,1,wsv M⟩] (. =⟨.tup [.s (.u ((V0:Nat):Int)),.s (.bool true)],[],[]⟩)/\V0<4294967296/\ldV o M AA=(if o=33 then sx8 V0 else V0):=by
   by_cases h32:o=32
   .subst h32
    exact ⟨_,Qb8 M n AA gI hn wP ha,Qab gB _,rfl⟩
   .have wT:wd o=1:=zN (by omega)
    rw [wT] at ha |-;refine ⟨_,Qmh M n AA gI gB hn wP ha,Nat.lt_trans (QoN _ _) (by decide),?_⟩;unfold ldV;rw [zN h32]
  have GW:=QCN V0 hV.1;obtain ⟨V,YM⟩:∃ V,ldV o M AA=V:=⟨_,rfl⟩;rw [YM] at hV |-;have gN:=QhK x pc c A V hx hc hA;have jC:=QaN (QaD x A V) pc c (w32 ((pc:Int)+4)) (by rw [Qay];exact hx);have qR:=Qaq (QaD x A V) (pc) (c) (by rw [Qay];exact hx) hc;have HG:=Qam (QaD x A V) (pc) (c);have jS:=Qai (QaD x A V) (pc) (c);have wW:=Qaj qR;have gpC2:=QaB (QaD x A V) (pc) (c) (by rw [Qay];exact hx);have gC:=Qaq (QaD x A V) (w32 ((pc:Int)+4)) (c) (by rw [Qay];exact hx) hc;have fW:=Qam (QaD x A V) (w32 ((pc:Int)+4)) (c);have gR:=Qai (QaD x A V) (w32 ((pc:Int)+4)) (c);have fE:=Qaj gC;have gpC3:=QaB (QaD x A V) (w32 ((pc:Int)+4)) (c) (by rw [Qay];exact hx);clear YM;generalize wsv M=XM,wsv xs=XX,x.getD A 0=vA,x.getD B 0=vB,w32 m=mm,Qax (QaD x A V) (w32 ((pc:Int)+4)) (c)=C3,Qax (QaD x A V) (pc) (c)=C2,Qax (x) (pc) (c)=CC at *;generalize w32 ((pc:Int)+4)=p4 at *;have e:o=32\/o=33\/o=34:=by omega
  have hV0:=hV.1;rcases e with rfl|rfl|rfl
  all_goals first
   | (
     obtain hq:V=sx8 V0:=hV.2;rw [<- hq] at GW
     clear hq hV)
   | (
     obtain rfl:V=V0:=hV.2
     clear hV)
  all_goals
   refine fnW Tryz.func56 ?_;(repeat' ((conv=>whnf);first|exact zi2|(refine zj0 ?_;intro hb)|refine QFc ?_|refine QHa ?_|refine QDi ?_|refine zq1 ?_|((with_reducible apply Ge.mk (α:=SV)); . first|exact rB|exact gpC2)|(refine Qaz hr ?_)|(refine Qaz qK ?_)|(refine zpu WY ?_)|(refine zpu GW ?_)|(refine zpu gN ?_)|refine zse ?_|refine zbb ?_ ?_))
   all_goals exact Qet
 .have fQ:=Qes x pc c (rsK xs n S R va (wd o) 2) va hx hc gK
  rw [Qbl] at fQ;rw [zN hK,zN hK,zN hK];have gC:=Qaq (x) (c.getD 1 0) (trL pc c (rsK xs n S R va (wd o) 2) va) hx rfl;have fW:=Qam (x) (c.getD 1 0) (trL pc c (rsK xs n S R va (wd o) 2) va);have gR:=Qai (x) (c.getD 1 0) (trL pc c (rsK xs n S R va (wd o) 2) va);have fE:=Qaj gC;have gpC3:=QaB (x) (c.getD 1 0) (trL pc c (rsK xs n S R va (wd o) 2) va) hx;generalize wsv (rsM xs n S R va (wd o) 2)=XM,rsA xs n S R va (wd o) 2=AA,wsv xs=XX,x.getD A 0=vA,x.getD B 0=vB,w32 m=mm,Qax (x) (c.getD 1 0) (trL pc c (rsK xs n S R va (wd o) 2) va)=C3,Qax (x) (pc) (c)=CC at *;generalize rsK xs n S R va (wd o) 2=K at *;generalize wd o=wo at *;refine fnW Tryz.func56 ?_;exact QEa
theorem Qo8 (x:List Nat) (pc:Nat) (c:List Nat) (xs:List Nat) (n:Nat) (o:Int) (A B C:Nat) (m:Int) (hx:x.length=16) (hc:c.length=8) (gK:ZL c) (gQ:pc<4294967296) (hl:xs.length=n) (hY:ZL xs) (hn:n<4294967296) (vG:ZL x) (hA:A<16) (hB:B<16) (ho:35<=o/\o<=36) :
  FN 57 [.agg (Qax x pc c),.s (.sl 0 0 n),.agg (iv o A B C m)] [⟨false,1,wsv xs⟩]
   (. =⟨.tup [.agg (Qax x (trP pc c (rsK xs n (c.getD 0 0) (c.getD 6 0) (vaO x B m) (wd o) 3)) (trC pc c (rsK xs n (c.getD 0 0) (c.getD 6 0) (vaO x B m) (wd o) 3) (vaO x B m))),.s (.sl 1 0 n)],[],[⟨true,1,wsv (stX xs n (c.getD 0 0) (c.getD 6 0) (vaO x B m) (x.getD A 0) o)⟩]⟩):=by
 have gX:vaO x B m<4294967296:=QaF _;have WY:=QmS o (by omega);have hr:=Qea x pc c xs n (vaO x B m) (wd o) 3 hx hc gK hl hY hn gX;have rA:=Qav x pc c A hx hA;have rB:=Qav x pc c B hx hB;have xA:=Qab vG A;have qm:IntKind.u32.wrap m=((w32 m:Nat):Int):=Qau m;have q4:IntKind.u32.wrap ((pc:Int)+4)=((w32 ((pc:Int)+4):Nat):Int):=Qau _;have qv:IntKind.u32.wrap (((x.getD B 0:Nat):Int)+((w32 m:Nat):Int))=((vaO x B m:Nat):Int):=Qau _;have gL:=Qaa xs;generalize c.getD 0 0=S,c.getD 6 0=R,vaO x B m=va at *;have gS:=Qaq (x) (pc) (c) hx hc;have jM:=Qam (x) (pc) (c);have qU:=Qai (x) (pc) (c);have qY:=Qaj gS;have gpCC:=QaB (x) (pc) (c) hx;have GV:=Qaa (rsM xs n S R va (wd o) 3);unfold stX trP trC
 by_cases hK:rsK xs n S R va (wd o) 3=0
 .have hok:=QhF hK
  obtain ⟨ha,wP⟩:=QhE hok gX;have gI:(rsM xs n S R va (wd o) 3).length=n:=by rw [Qbh];exact hl
  have gB:=Qc6 xs n S R va (wd o) 3 hY;rw [zP hK,zP hK,zP hK];rw [hK] at hr;generalize rsM xs n S R va (wd o) 3=M,rsA xs n S R va (wd o) 3=AA at *
  have qK:FN 122 [.s (.sl 0 0 n),.s (.u AA),.s (.i (wd o)),.s (.u (x.getD A 0:Nat))] [⟨false,1,wsv M⟩] (. =⟨.tup [.s (.sl 1 0 n),.s (.bool true)],[],[⟨true,1,wsv (stM o M AA (x.getD A 0))⟩]⟩):=by
   by_cases vJ:o=35
   .subst vJ
    exact Qj3 M n AA (x.getD A 0) gI hn wP ha
   .have wT:wd o=1:=zN (by omega)
    rw [wT] at ha |-;unfold stM;rw [zN vJ];exact Qr1 M n AA (x.getD A 0) gI hn wP ha
  have hss:=Qaa (stM o M AA (x.getD A 0));have jC:=QaN x pc c (w32 ((pc:Int)+4)) hx;have gC:=Qaq (x) (w32 ((pc:Int)+4)) (c) hx hc;have fW:=Qam (x) (w32 ((pc:Int)+4)) (c);have gR:=Qai (x) (w32 ((pc:Int)+4)) (c);have fE:=Qaj gC;have gpC3:=QaB (x) (w32 ((pc:Int)+4)) (c) hx;generalize wsv (stM o M AA (x.getD A 0))=XS,wsv M=XM,wsv xs=XX at *;generalize x.getD A 0=vA,x.getD B 0=vB,w32 m=mm,Qax (x) (w32 ((pc:Int)+4)) (c)=C3,Qax (x) (pc) (c)=CC at *;generalize w32 ((pc:Int)+4)=p4,wd o=wo at *;refine fnW Tryz.func57 ?_;(repeat' ((conv=>whnf);first|exact zi2|(refine zj0 ?_;intro hb)|refine QFc ?_|refine zq9 ?_|refine QzN ?_|refine zq1 ?_|refine QFa ?_|(refine Qaz hr ?_)|(refine Qaz qK ?_)|(refine zpu WY ?_)|refine zse ?_|refine zbb ?_ ?_))
  all_goals exact Qet
 .have fQ:=Qes x pc c (rsK xs n S R va (wd o) 3) va hx hc gK
  rw [Qbl] at fQ;rw [zN hK,zN hK,zN hK];have gC:=Qaq (x) (c.getD 1 0) (trL pc c (rsK xs n S R va (wd o) 3) va) hx rfl;have fW:=Qam (x) (c.getD 1 0) (trL pc c (rsK xs n S R va (wd o) 3) va);have gR:=Qai (x) (c.getD 1 0) (trL pc c (rsK xs n S R va (wd o) 3) va);have fE:=Qaj gC;have gpC3:=QaB (x) (c.getD 1 0) (trL pc c (rsK xs n S R va (wd o) 3) va) hx;generalize wsv (rsM xs n S R va (wd o) 3)=XM,rsA xs n S R va (wd o) 3=AA,wsv xs=XX,x.getD A 0=vA,x.getD B 0=vB,w32 m=mm,Qax (x) (c.getD 1 0) (trL pc c (rsK xs n S R va (wd o) 3) va)=C3,Qax (x) (pc) (c)=CC at *;generalize rsK xs n S R va (wd o) 3=K at *;generalize wd o=wo at *;refine fnW Tryz.func57 ?_;exact QEa
def nA (w:Nat):Nat:=w / 2^20%2^4
def nB (w:Nat):Nat:=w / 2^16%2^4
def nC (w:Nat):Nat:=(dC w).toNat
theorem QBh (w:Nat) (hw:w<4294967296) (h:dOk w=true):FN 53 [.s (.u w)] [] (. =⟨.tup [.agg (iv (dOp w) (dA w) (dB w) (dC w) (dM w)),.s (.bool true)],[],[]⟩):=by
 exact QDR
theorem QBg (w:Nat) (hw:w<4294967296) (h:dOk w=false):FN 53 [.s (.u w)] [] (. =⟨.tup [.agg (iv 0 0 0 0 0),.s (.bool false)],[],[]⟩):=by
 exact QDR
theorem Qh5 (w:Nat) (h:dOk w=true):dA w=(nA w:Nat)/\nA w<16/\dB w=(nB w:Nat)/\nB w<16/\dC w=(nC w:Nat)/\nC w<16/\(-32768<=dM w/\dM w<=65535)/\(dOp w=58->0<=dM w/\dM w<8) /\
  (1<=dOp w/\dOp w<=13\/16<=dOp w/\dOp w<=24\/32<=dOp w/\dOp w<=36\/40<=dOp w/\dOp w<=45\/dOp w=48\/dOp w=49\/56<=dOp w/\dOp w<=64):=by
 unfold dOk at h;rw [zba] at h;obtain ⟨h1,h2⟩:=h;unfold QfG at h2;simp only [zba,zde] at h2;obtain ⟨⟨⟨⟨⟨_,_⟩,_⟩,h6⟩,h7⟩,h8⟩:=h2;have fC:0<=dC w:=by unfold dC;split<;>omega
 have WF:dC w<16:=by
  cases hu:Qsh (dOp w) with
  | false=>unfold dC;rw [hu];simp
  | true =>
   rw [hu] at h6;unfold Qmu at h6;simp only [zba,zde] at h6;omega
 have hcls:1<=dOp w/\dOp w<=13\/16<=dOp w/\dOp w<=24\/32<=dOp w/\dOp w<=36\/40<=dOp w/\dOp w<=45\/dOp w=48\/dOp w=49\/56<=dOp w/\dOp w<=64:=by
  unfold QcR Qsg at h1;simp only [Bool.or_eq_true,zde] at h1;omega
 refine ⟨rfl,Nat.mod_lt _ (by decide),rfl,Nat.mod_lt _ (by decide),(by unfold nC;omega),(by unfold nC;omega),?_,?_,hcls⟩
 .have qK: -32768<=Qg5 (dOp w):=by unfold Qg5;split<;>omega
  have hhi:Qhj (dOp w)<=65535:=by
                      unfold Qhj;repeat' split
                      all_goals omega
  omega
 .intro h58
  rw [h58] at h7 h8;have a:Qg5 58=0:=rfl;have b:Qhj 58=7:=rfl;omega
structure Ex where
 (x:List Nat) (pc:Nat) (c:List Nat) (m:List Nat) (e:List SV)
def E0:List SV:= [.i 0,.i 0,.i 0,.u (0:Nat)]
def exS (x:List Nat) (pc:Nat) (c:List Nat) (xs:List Nat) (n:Nat):Ex :=
 if rsK xs n (c.getD 0 0) (c.getD 6 0) pc 4 1≠0 then ⟨x,c.getD 1 0,trL pc c (rsK xs n (c.getD 0 0) (c.getD 6 0) pc 4 1) pc,rsM xs n (c.getD 0 0) (c.getD 6 0) pc 4 1,E0⟩
 else if dOk (ftW xs n (c.getD 0 0) (c.getD 6 0) pc)=false then ⟨x,c.getD 1 0,trL pc c 1 (ftW xs n (c.getD 0 0) (c.getD 6 0) pc),rsM xs n (c.getD 0 0) (c.getD 6 0) pc 4 1,E0⟩
 else if 57<=dOp (ftW xs n (c.getD 0 0) (c.getD 6 0) pc)/\c.getD 0 0%2=0 then ⟨x,c.getD 1 0,trL pc c 2 (ftW xs n (c.getD 0 0) (c.getD 6 0) pc),rsM xs n (c.getD 0 0) (c.getD 6 0) pc 4 1,E0⟩
 else if 32<=dOp (ftW xs n (c.getD 0 0) (c.getD 6 0) pc)/\dOp (ftW xs n (c.getD 0 0) (c.getD 6 0) pc)<=34 then
  ⟨ldX x (rsM xs n (c.getD 0 0) (c.getD 6 0) pc 4 1) n (c.getD 0 0) (c.getD 6 0) (vaO x (nB (ftW xs n (c.getD 0 0) (c.getD 6 0) pc)) (dM (ftW xs n (c.getD 0 0) (c.getD 6 0) pc))) (dOp (ftW xs n (c.getD 0 0) (c.getD 6 0) pc)) (nA (ftW xs n (c.getD 0 0) (c.getD 6 0) pc)),
   trP pc c (rsK (rsM xs n (c.getD 0 0) (c.getD 6 0) pc 4 1) n (c.getD 0 0) (c.getD 6 0) (vaO x (nB (ftW xs n (c.getD 0 0) (c.getD 6 0) pc)) (dM (ftW xs n (c.getD 0 0) (c.getD 6 0) pc))) (wd (dOp (ftW xs n (c.getD 0 0) (c.getD 6 0) pc))) 2),
   trC pc c (rsK (rsM xs n (c.getD 0 0) (c.getD 6 0) pc 4 1) n (c.getD 0 0) (c.getD 6 0) (vaO x (nB (ftW xs n (c.getD 0 0) (c.getD 6 0) pc)) (dM (ftW xs n (c.getD 0 0) (c.getD 6 0) pc))) (wd (dOp (ftW xs n (c.getD 0 0) (c.getD 6 0) pc))) 2) (vaO x (nB (ftW xs n (c.getD 0 0) (c.getD 6 0) pc)) (dM (ftW xs n (c.getD 0 0) (c.getD 6 0) pc))),
   rsM (rsM xs n (c.getD 0 0) (c.getD 6 0) pc 4 1) n (c.getD 0 0) (c.getD 6 0) (vaO x (nB (ftW xs n (c.getD 0 0) (c.getD 6 0) pc)) (dM (ftW xs n (c.getD 0 0) (c.getD 6 0) pc))) (wd (dOp (ftW xs n (c.getD 0 0) (c.getD 6 0) pc))) 2,E0⟩
 else if 35<=dOp (ftW xs n (c.getD 0 0) (c.getD 6 0) pc)/\dOp (ftW xs n (c.getD 0 0) (c.getD 6 0) pc)<=36 then
  ⟨x,
   trP pc c (rsK (rsM xs n (c.getD 0 0) (c.getD 6 0) pc 4 1) n (c.getD 0 0) (c.getD 6 0) (vaO x (nB (ftW xs n (c.getD 0 0) (c.getD 6 0) pc)) (dM (ftW xs n (c.getD 0 0) (c.getD 6 0) pc))) (wd (dOp (ftW xs n (c.getD 0 0) (c.getD 6 0) pc))) 3),
   trC pc c (rsK (rsM xs n (c.getD 0 0) (c.getD 6 0) pc 4 1) n (c.getD 0 0) (c.getD 6 0) (vaO x (nB (ftW xs n (c.getD 0 0) (c.getD 6 0) pc)) (dM (ftW xs n (c.getD 0 0) (c.getD 6 0) pc))) (wd (dOp (ftW xs n (c.getD 0 0) (c.getD 6 0) pc))) 3) (vaO x (nB (ftW xs n (c.getD 0 0) (c.getD 6 0) pc)) (dM (ftW xs n (c.getD 0 0) (c.getD 6 0) pc))),
   stX (rsM xs n (c.getD 0 0) (c.getD 6 0) pc 4 1) n (c.getD 0 0) (c.getD 6 0) (vaO x (nB (ftW xs n (c.getD 0 0) (c.getD 6 0) pc)) (dM (ftW xs n (c.getD 0 0) (c.getD 6 0) pc))) (x.getD (nA (ftW xs n (c.getD 0 0) (c.getD 6 0) pc)) 0) (dOp (ftW xs n (c.getD 0 0) (c.getD 6 0) pc)),E0⟩
 else
  ⟨exX x pc c (dOp (ftW xs n (c.getD 0 0) (c.getD 6 0) pc)) (nA (ftW xs n (c.getD 0 0) (c.getD 6 0) pc)) (nB (ftW xs n (c.getD 0 0) (c.getD 6 0) pc)) (nC (ftW xs n (c.getD 0 0) (c.getD 6 0) pc)) (dM (ftW xs n (c.getD 0 0) (c.getD 6 0) pc)),
   exP x pc c (dOp (ftW xs n (c.getD 0 0) (c.getD 6 0) pc)) (nA (ftW xs n (c.getD 0 0) (c.getD 6 0) pc)) (nB (ftW xs n (c.getD 0 0) (c.getD 6 0) pc)) (dM (ftW xs n (c.getD 0 0) (c.getD 6 0) pc)),
   exC x pc c (dOp (ftW xs n (c.getD 0 0) (c.getD 6 0) pc)) (nA (ftW xs n (c.getD 0 0) (c.getD 6 0) pc)) (dM (ftW xs n (c.getD 0 0) (c.getD 6 0) pc)),
   rsM xs n (c.getD 0 0) (c.getD 6 0) pc 4 1,
   exE x (dOp (ftW xs n (c.getD 0 0) (c.getD 6 0) pc)) (nA (ftW xs n (c.getD 0 0) (c.getD 6 0) pc)) (dM (ftW xs n (c.getD 0 0) (c.getD 6 0) pc))⟩
theorem QwK (x:List Nat) (pc:Nat) (c:List Nat) (o:Int) (A B C:Nat) (m:Int) (hx:x.length=16) (hc:c.length=8) (hY:ZL x) (gA:ZL c) (gQ:pc<4294967296) (hA:A<16) (hB:B<16) (hC:C<16) (hm:o=58->0<=m/\m<8) (gB: -32768<=m/\m<=65535) (ho:1<=o/\o<=13\/16<=o/\o<=24\/40<=o/\o<=45\/o=48\/o=49\/56<=o/\o<=64) :
  FN 58 [.agg (Qax x pc c),.agg (iv o A B C m)] [] (. =⟨.tup [.agg (Qax (exX x pc c o A B C m) (exP x pc c o A B m) (exC x pc c o A m)),.agg (exE x o A m)],[],[]⟩):=by
 by_cases h1:1<=o/\o<=13
 .exact Qtp x pc c o A B C m hx hc hY gA gQ hA hB hC hm gB h1
 by_cases h2:16<=o/\o<=23
 .exact Qtq x pc c o A B C m hx hc hY gA gQ hA hB hC hm gB h2
 by_cases h3:40<=o/\o<=45
 .cases h:Qdf o (x.getD A 0) (x.getD B 0) with
  | true=>exact QkQ x pc c o A B C m hx hc hY gA gQ hA hB hC hm gB ⟨h3,h⟩
  | false=>exact Qjk x pc c o A B C m hx hc hY gA gQ hA hB hC hm gB ⟨h3,h⟩
 have e:o=24\/o=48\/o=49\/o=56\/o=57\/o=58\/o=59\/o=60\/o=61\/o=62\/o=63\/o=64:=by omega
 rcases e with h|h|h|h|h|h|h|h|h|h|h|h
 .exact Qxp x pc c o A B C m hx hc hY gA gQ hA hB hC hm gB h
 .exact Qxo x pc c o A B C m hx hc hY gA gQ hA hB hC hm gB h
 .exact Qtv x pc c o A B C m hx hc hY gA gQ hA hB hC hm gB h
 .exact QpX x pc c o A B C m hx hc hY gA gQ hA hB hC hm gB h
 .exact Qtt x pc c o A B C m hx hc hY gA gQ hA hB hC hm gB h
 .exact Qtr x pc c o A B C m hx hc hY gA gQ hA hB hC hm gB h
 .exact Qts x pc c o A B C m hx hc hY gA gQ hA hB hC hm gB h
 .exact QBs x pc c o A B C m hx hc hY gA gQ hA hB hC hm gB h
 .exact Qxq x pc c o A B C m hx hc hY gA gQ hA hB hC hm gB h
 .exact Qxr x pc c o A B C m hx hc hY gA gQ hA hB hC hm gB h
 .exact QpY x pc c o A B C m hx hc hY gA gQ hA hB hC hm gB h
 .exact Qtu x pc c o A B C m hx hc hY gA gQ hA hB hC hm gB h
theorem Qee (x:List Nat) (pc:Nat) (c:List Nat) (o:Int) (A B C:Nat) (m:Int):(exX x pc c o A B C m).length=x.length:=by
 unfold exX
 repeat' split
 all_goals simp only [Qay]
theorem Qh6 (x:List Nat) (pc:Nat) (c:List Nat) (o:Int) (A:Nat) (m:Int) (hc:c.length=8):(exC x pc c o A m).length=8:=by
 unfold exC;split
 .rfl
 .split
  .simpa using hc
  .split
   .rw [Qg8];exact hc
   .exact hc
theorem Qh7 (x:List Nat) (o:Int) (A:Nat) (m:Int):Qad (exE x o A m)=true/\Qat (exE x o A m)=true/\(exE x o A m).length=4:=by
 unfold exE
 repeat' split
 all_goals exact ⟨rfl,rfl,rfl⟩
theorem QgE (x xs:List Nat) (n s r va:Nat) (o:Int) (A:Nat):(ldX x xs n s r va o A).length=x.length:=by
 unfold ldX;split
 .rw [Qay]
 .rfl
theorem Qfk (pc:Nat) (c:List Nat) (K:Int) (va:Nat) (hc:c.length=8):(trC pc c K va).length=8:=by
 unfold trC;split
 .exact hc
 .rfl
theorem QfV (x:List Nat) (pc:Nat) (c:List Nat) (xs:List Nat) (n:Nat) (hx:x.length=16) (hc:c.length=8) (gK:ZL c) (gQ:pc<4294967296) (hl:xs.length=n) (hY:ZL xs) (hn:n<4294967296) (vG:ZL x) (Q:Ex) (hQ:exS x pc c xs n=Q) :
  FN 22 [.agg (Qax x pc c),.s (.sl 0 0 n)] [⟨false,1,wsv xs⟩]
   (. =⟨.tup [.agg (Qax Q.x Q.pc Q.c),.s (.sl 1 0 n),.agg Q.e],[],[⟨true,1,wsv Q.m⟩]⟩):=by
 have hf:=QoS x pc c xs n hx hc gK gQ hl hY hn;have hk:=Qjq x pc c hx hc (Qab gK 0);have uA:=Qqh xs n (c.getD 0 0) (c.getD 6 0) pc hY;have hM:=Qc6 xs n (c.getD 0 0) (c.getD 6 0) pc 4 1 hY;have FW:(rsM xs n (c.getD 0 0) (c.getD 6 0) pc 4 1).length=n:=by rw [Qbh];exact hl
 have gL:=Qaa xs;have GV:=Qaa (rsM xs n (c.getD 0 0) (c.getD 6 0) pc 4 1);have gS:=Qaq (x) (pc) (c) hx hc;have jM:=Qam (x) (pc) (c);have qU:=Qai (x) (pc) (c);have qY:=Qaj gS;have gpCC:=QaB (x) (pc) (c) hx;unfold exS at hQ
 by_cases hK:rsK xs n (c.getD 0 0) (c.getD 6 0) pc 4 1=0
 case neg =>
  rw [zP hK] at hQ;subst hQ;have fQ:=Qes x pc c (rsK xs n (c.getD 0 0) (c.getD 6 0) pc 4 1) pc hx hc gK;rw [Qbl] at fQ;dsimp only [E0];have gC:=Qaq (x) (c.getD 1 0) (trL pc c (rsK xs n (c.getD 0 0) (c.getD 6 0) pc 4 1) (pc)) hx rfl;have fW:=Qam (x) (c.getD 1 0) (trL pc c (rsK xs n (c.getD 0 0) (c.getD 6 0) pc 4 1) (pc));have gR:=Qai (x) (c.getD 1 0) (trL pc c (rsK xs n (c.getD 0 0) (c.getD 6 0) pc 4 1) (pc));have fE:=Qaj gC;have gpC3:=QaB (x) (c.getD 1 0) (trL pc c (rsK xs n (c.getD 0 0) (c.getD 6 0) pc 4 1) (pc)) hx;generalize Qax (x) (c.getD 1 0) (trL pc c (rsK xs n (c.getD 0 0) (c.getD 6 0) pc 4 1) (pc))=C3 at *;generalize rsK xs n (c.getD 0 0) (c.getD 6 0) pc 4 1=K,ftW xs n (c.getD 0 0) (c.getD 6 0) pc=W,wsv (rsM xs n (c.getD 0 0) (c.getD 6 0) pc 4 1)=XM,wsv xs=XX,Qax (x) (pc) (c)=CC at *;refine fnW Tryz.func22 ?_;(repeat' ((conv=>whnf);first|exact zi2|(refine zj0 ?_;intro hb)|refine Qwi ?_|refine zq4 ?_|refine zq1 ?_|refine QAH ?_|(refine Qaz hf ?_)|(refine zpu fQ ?_)|refine zse ?_|refine zbb ?_ ?_))
  all_goals exact Qet
 rw [zN (fun h=>h hK)] at hQ;rw [hK] at hf;generalize hS:c.getD 0 0=S,hR:c.getD 6 0=R at *;generalize hW:ftW xs n S R pc=W,hXM:rsM xs n S R pc 4 1=M at *;clear hK hW hXM
 cases hd:dOk W with
 | false =>
  rw [zP hd] at hQ;subst hQ;have jR:=QBg W uA hd;unfold iv at jR;have fQ:=Qes x pc c 1 W hx hc gK;rw [Qbl] at fQ;dsimp only [E0];have gC:=Qaq (x) (c.getD 1 0) (trL pc c (1) (W)) hx rfl;have fW:=Qam (x) (c.getD 1 0) (trL pc c (1) (W));have gR:=Qai (x) (c.getD 1 0) (trL pc c (1) (W));have fE:=Qaj gC;have gpC3:=QaB (x) (c.getD 1 0) (trL pc c (1) (W)) hx;generalize Qax (x) (c.getD 1 0) (trL pc c (1) (W))=C3,wsv M=XM,wsv xs=XX,Qax (x) (pc) (c)=CC at *;refine fnW Tryz.func22 ?_;(repeat' ((conv=>whnf);first|exact zi2|(refine zj0 ?_;intro hb)|refine Qwi ?_|refine zq4 ?_|refine zq1 ?_|(refine Qaz hf ?_)|(refine zpu jR ?_)|(refine zpu fQ ?_)|refine zse ?_|refine zbb ?_ ?_));all_goals (conv=>whnf)
  all_goals exact Qet
 | true =>
 rw [zN (by rw [hd];decide)] at hQ;have jR:=QBh W uA hd;obtain ⟨a1,a2,b1,b2,c1,c2,m1,m2,_⟩:=Qh5 W hd;rw [a1,b1,c1] at jR;have gH:=Qrb (dOp W);generalize nA W=A,nB W=B,nC W=C,dM W=m,dOp W=o at *;clear hd a1 b1 c1
 by_cases hpv:57<=o/\S%2=0
 .rw [zP hpv] at hQ
  subst hQ;rw [show QgO o=true from zdt (by omega)] at gH;rw [hpv.2] at hk;have fQ:=Qes x pc c 2 W hx hc gK;rw [Qbl] at fQ;dsimp only [E0];unfold iv at jR;have gC:=Qaq (x) (c.getD 1 0) (trL pc c (2) (W)) hx rfl;have fW:=Qam (x) (c.getD 1 0) (trL pc c (2) (W));have gR:=Qai (x) (c.getD 1 0) (trL pc c (2) (W));have fE:=Qaj gC;have gpC3:=QaB (x) (c.getD 1 0) (trL pc c (2) (W)) hx;generalize Qax (x) (c.getD 1 0) (trL pc c (2) (W))=C3,wsv M=XM,wsv xs=XX,Qax (x) (pc) (c)=CC at *;refine fnW Tryz.func22 ?_;(repeat' ((conv=>whnf);first|exact zi2|(refine zj0 ?_;intro hb)|refine Qwi ?_|refine zq4 ?_|refine zq1 ?_|(refine Qaz hf ?_)|(refine zpu jR ?_)|(refine zpu gH ?_)|(refine zpu hk ?_)|(refine zpu fQ ?_)|refine zse ?_|refine zbb ?_ ?_))
  all_goals exact Qet
 rw [zN hpv] at hQ;obtain ⟨bp,ZQ,jE⟩:∃ bp,QgO o=bp/\(bp=true->S%2=1):=⟨_,rfl,fun h=>by unfold QgO at h;simp only [zde] at h;omega⟩;rw [ZQ] at gH;generalize S%2=S2 at *
 by_cases h32:32<=o/\o<=34
 .rw [zP h32] at hQ
  subst hQ;have jX:=Qs3 x pc c M n o A B C m hx hc gK gQ FW hM hn vG a2 b2 h32;rw [hS,hR] at jX;dsimp only [E0];have ZA:=Qaa (rsM M n S R (vaO x B m) (wd o) 2);obtain rfl:bp=false:=QDZ;clear hk jE hpv;have gC:=Qaq (ldX x M n S R (vaO x B m) o A) (trP pc c (rsK M n S R (vaO x B m) (wd o) 2)) (trC pc c (rsK M n S R (vaO x B m) (wd o) 2) (vaO x B m)) (by rw [QgE];exact hx) (Qfk _ _ _ _ hc);have fW:=Qam (ldX x M n S R (vaO x B m) o A) (trP pc c (rsK M n S R (vaO x B m) (wd o) 2)) (trC pc c (rsK M n S R (vaO x B m) (wd o) 2) (vaO x B m));have gR:=Qai (ldX x M n S R (vaO x B m) o A) (trP pc c (rsK M n S R (vaO x B m) (wd o) 2)) (trC pc c (rsK M n S R (vaO x B m) (wd o) 2) (vaO x B m));have fE:=Qaj gC;have gpC3:=QaB (ldX x M n S R (vaO x B m) o A) (trP pc c (rsK M n S R (vaO x B m) (wd o) 2)) (trC pc c (rsK M n S R (vaO x B m) (wd o) 2) (vaO x B m)) (by rw [QgE];exact hx);generalize Qax (ldX x M n S R (vaO x B m) o A) (trP pc c (rsK M n S R (vaO x B m) (wd o) 2)) (trC pc c (rsK M n S R (vaO x B m) (wd o) 2) (vaO x B m))=C3,wsv (rsM M n S R (vaO x B m) (wd o) 2)=XL,wsv M=XM,wsv xs=XX,Qax (x) (pc) (c)=CC at *;unfold iv at jR jX;have e:o=32\/o=33\/o=34:=by omega
  rcases e with rfl|rfl|rfl
  all_goals
   refine fnW Tryz.func22 ?_;exact QEb
 rw [zN h32] at hQ
 by_cases vJ:35<=o/\o<=36
 .rw [zP vJ] at hQ
  subst hQ;have jX:=Qo8 x pc c M n o A B C m hx hc gK gQ FW hM hn vG a2 b2 vJ;rw [hS,hR] at jX;dsimp only [E0];have ZA:=Qaa (stX M n S R (vaO x B m) (x.getD A 0) o);obtain rfl:bp=false:=QDZ;clear hk jE hpv;have gC:=Qaq (x) (trP pc c (rsK M n S R (vaO x B m) (wd o) 3)) (trC pc c (rsK M n S R (vaO x B m) (wd o) 3) (vaO x B m)) hx (Qfk _ _ _ _ hc);have fW:=Qam (x) (trP pc c (rsK M n S R (vaO x B m) (wd o) 3)) (trC pc c (rsK M n S R (vaO x B m) (wd o) 3) (vaO x B m));have gR:=Qai (x) (trP pc c (rsK M n S R (vaO x B m) (wd o) 3)) (trC pc c (rsK M n S R (vaO x B m) (wd o) 3) (vaO x B m));have fE:=Qaj gC;have gpC3:=QaB (x) (trP pc c (rsK M n S R (vaO x B m) (wd o) 3)) (trC pc c (rsK M n S R (vaO x B m) (wd o) 3) (vaO x B m)) hx;generalize Qax (x) (trP pc c (rsK M n S R (vaO x B m) (wd o) 3)) (trC pc c (rsK M n S R (vaO x B m) (wd o) 3) (vaO x B m))=C3,wsv (stX M n S R (vaO x B m) (x.getD A 0) o)=XL,wsv M=XM,wsv xs=XX,Qax (x) (pc) (c)=CC at *;unfold iv at jR jX;have e:o=35\/o=36:=by omega
  rcases e with rfl|rfl
  all_goals
   refine fnW Tryz.func22 ?_;exact QEb
 rw [zN vJ] at hQ;subst hQ;have jX:=QwK x pc c o A B C m hx hc vG gK gQ a2 b2 c2 m2 m1 (by omega);obtain ⟨_,ek,el⟩:=Qh7 x o A m;have gC:=Qaq (exX x pc c o A B C m) (exP x pc c o A B m) (exC x pc c o A m) (by rw [Qee];exact hx) (Qh6 x pc c o A m hc);have fW:=Qam (exX x pc c o A B C m) (exP x pc c o A B m) (exC x pc c o A m);have gR:=Qai (exX x pc c o A B C m) (exP x pc c o A B m) (exC x pc c o A m);have fE:=Qaj gC;have gpC3:=QaB (exX x pc c o A B C m) (exP x pc c o A B m) (exC x pc c o A m) (by rw [Qee];exact hx);have n1:¬ o=32:=by omega
 have n2:¬ o=33:=by omega
 have n3:¬ o=34:=by omega
 have n4:¬ o=35:=by omega
 have n5:¬ o=36:=by omega
 dsimp only;generalize Qax (exX x pc c o A B C m) (exP x pc c o A B m) (exC x pc c o A m)=C3,wsv M=XM,wsv xs=XX,exE x o A m=EE at *;have WZ:∀ c:List SV,c.length=4->QaC c 0 EE=EE:=fun c hc=>Qcc (hc.trans el.symm)
 generalize Qax (x) (pc) (c)=CC at *;unfold iv at jR jX
 cases bp with
 | false =>
  clear hk jE hpv;refine fnW Tryz.func22 ?_;(repeat' ((conv=>whnf);first|exact zi2|(refine zj0 ?_;intro hb)|refine Qwk ?_|refine QE2 ?_|refine QE9 ?_|(refine Qaz hf ?_)|(refine zpu jR ?_)|(refine zpu gH ?_)|(refine zpu jX ?_)|refine zse ?_|refine zbb ?_ ?_));all_goals (conv=>whnf)
  all_goals exact Qet
 | true =>
  obtain rfl:S2=1:=jE rfl;refine fnW Tryz.func22 ?_;(repeat' ((conv=>whnf);first|exact zi2|(refine zj0 ?_;intro hb)|refine Qwk ?_|refine QE2 ?_|refine QE9 ?_|(refine Qaz hf ?_)|(refine zpu jR ?_)|(refine zpu gH ?_)|(refine zpu hk ?_)|(refine zpu jX ?_)|refine zse ?_|refine zbb ?_ ?_))
  all_goals exact Qet
end Go.Proofs.YtpgkkfajljekpaaGreat
