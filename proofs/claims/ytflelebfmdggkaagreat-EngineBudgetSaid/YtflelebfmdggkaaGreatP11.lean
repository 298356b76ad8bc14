import Derived.Test.YtflelebfmdggkaaGreatP44
import Derived.Test.YtflelebfmdggkaaGreatP70
set_option linter.unusedSimpArgs false
set_option linter.unusedVariables false
set_option maxHeartbeats 100000000
set_option maxRecDepth 100000
namespace Go.Proofs.YtflelebfmdggkaaGreat
open Go Go.RowKit
theorem QlR (o:Int) (a b:Nat) (ha:a<4294967296) (fY:b<4294967296):FN 236 [.s (.i o),.s (.u a),.s (.u b)] [] (· =⟨.a (.s (.bool (Qde o a b))),[],[]⟩):=by
 refine fnW Tryz.func236 ?_;exact QyK
theorem Qai {l:List SV} (h:l.length=25):∀ c:List SV,c.length=25→QaC c 0 l=l:=fun c hc=>Qch (hc.trans h.symm)
theorem Qhs (x:List Nat) (pc:Nat) (c:List Nat) (r v:Nat) (hx:x.length=16) (hc:c.length=8) (hr:r<16):FN 234 [.agg (Qay x pc c),.s (.i r),.s (.u v)] [] (· =⟨.a (.agg (Qay (QaE x r v) pc c)),[],[]⟩):=by
 have hl:=Qap x pc c hx hc;have hs:=Qal x pc c;have hk:=Qag x pc c;have wi:=QAR r;have hw:=Qh3 x pc c r v hx hr;have hl2:=Qap (x.set r v) pc c (by simpa using hx) hc;have gY:=Qal (x.set r v) pc c;have wX:=Qai hl;have hz2:=Qai hl2;have jC:=Qag (x.set r v) pc c;unfold QaE
 by_cases h:r=0
 ·rw [zP h]
  subst h;generalize Qay x pc c=C at *;refine fnW Tryz.func234 ?_;(repeat' ((conv=>whnf);first|exact zi2|(refine zj0 ?_;intro hb)|(apply Sd.mk; · exact ⟨hl,hk,rfl,(by show 0+C.length≤25;omega)⟩)|((with_reducible apply Vl.mk (α:=List SV)); · exact wX _ rfl)|(apply Sg.mk; · exact Qa8 C hl)|refine zse ?_|refine zbb ?_ ?_))
  all_goals exact zf_
 ·rw [zN h]
  generalize Qay (x.set r v) pc c=C2,Qay x pc c=C at *;refine fnW Tryz.func234 ?_;(repeat' ((conv=>whnf);first|exact zi2|(refine zj0 ?_;intro hb)|(apply Sd.mk; · first|exact ⟨hl2,jC,rfl,(by show 0+C2.length≤25;omega)⟩|(show (0:Int)≤r∧(r:Int)<16;omega)|(refine ⟨rfl,rfl,rfl,?_⟩;show r+1≤C.length;omega))|((with_reducible apply Vl.mk (α:=List SV)); · first|with_reducible exact hw|exact hz2 _ rfl)|(apply Sg.mk; · exact Qa8 C2 hl2)|refine zse ?_|refine zbb ?_ ?_))
  all_goals exact zf_
theorem Qtx (x:List Nat) (pc:Nat) (c:List Nat) (o:Int) (A B C:Nat) (m:Int) (hx:x.length=16) (hc:c.length=8) (hY:∀ y∈x,y<4294967296) (gA:∀ y∈c,y<4294967296) (gQ:pc<4294967296) (hA:A<16) (hB:B<16) (hC:C<16) (hm:o=58→0≤m∧m<8) (gB: -32768≤m∧m≤65535) (ho:1≤o∧o≤13) :
  FN 201 [.agg (Qay x pc c),.agg (iv o A B C m)] [] (· =⟨.tup [.agg (Qay (exX x pc c o A B C m) (exP x pc c o A B m) (exC x pc c o A m)),.agg (exE x o A m)],[],[]⟩):=by
 have eX:exX x pc c o A B C m=QaE x A (Qbv o (x.getD B 0) (x.getD C 0)):=by unfold exX;rw [zP (by omega)]
 have eP:exP x pc c o A B m=w32 ((pc:Int)+4):=QiB;have eC:exC x pc c o A m=c:=Qci;have eE:exE x o A m= [.i 0,.i 0,.i 0,.u (0:Nat)]:=Qkd;rw [eX,eP,eC,eE];have rA:=Qaw x pc c A hx hA;have rB:=Qaw x pc c B hx hB;have rC:=Qaw x pc c C hx hC;have gp:=QaB x pc c hx;have qm:IntKind.u32.wrap m=((w32 m:Nat):Int):=Qat m;have q4:IntKind.u32.wrap ((pc:Int)+4)=((w32 ((pc:Int)+4):Nat):Int):=Qat _;have xA:=Qab hY A;have xB:=Qab hY B;have xC:=Qab hY C;have lm:=QaH m;have hl:=Qap x pc c hx hc;have hs:=Qal x pc c;have hk:=Qag x pc c;have wX:=Qai hl;obtain ⟨V,hV⟩:∃ V,Qbv o (x.getD B 0) (x.getD C 0)=V:=⟨_,rfl⟩;obtain ⟨PP,qV⟩:∃ PP,w32 ((pc:Int)+4)=PP:=⟨_,rfl⟩;rw [hV,qV];rw [qV] at q4;have gZ:=Qdk o (x.getD B 0) (x.getD C 0) xB (by first|exact xC|exact lm);rw [← Qbj o (x.getD B 0) (x.getD C 0) xB (by first|exact xC|exact lm),hV] at gZ;exact QIg
theorem QuK (x:List Nat) (pc:Nat) (c:List Nat) (o:Int) (A B C:Nat) (m:Int) (hx:x.length=16) (hc:c.length=8) (hY:∀ y∈x,y<4294967296) (gA:∀ y∈c,y<4294967296) (gQ:pc<4294967296) (hA:A<16) (hB:B<16) (hC:C<16) (hm:o=58→0≤m∧m<8) (gB: -32768≤m∧m≤65535) (ho:16≤o∧o≤23) :
  FN 201 [.agg (Qay x pc c),.agg (iv o A B C m)] [] (· =⟨.tup [.agg (Qay (exX x pc c o A B C m) (exP x pc c o A B m) (exC x pc c o A m)),.agg (exE x o A m)],[],[]⟩):=by
 have eX:exX x pc c o A B C m=QaE x A (Qbv o (x.getD B 0) (w32 m)):=by unfold exX;rw [zN (by omega),zP (by omega)]
 have eP:exP x pc c o A B m=w32 ((pc:Int)+4):=QiB;have eC:exC x pc c o A m=c:=Qci;have eE:exE x o A m= [.i 0,.i 0,.i 0,.u (0:Nat)]:=Qkd;rw [eX,eP,eC,eE];have rA:=Qaw x pc c A hx hA;have rB:=Qaw x pc c B hx hB;have rC:=Qaw x pc c C hx hC;have gp:=QaB x pc c hx;have qm:IntKind.u32.wrap m=((w32 m:Nat):Int):=Qat m;have q4:IntKind.u32.wrap ((pc:Int)+4)=((w32 ((pc:Int)+4):Nat):Int):=Qat _;have xA:=Qab hY A;have xB:=Qab hY B;have xC:=Qab hY C;have lm:=QaH m;have hl:=Qap x pc c hx hc;have hs:=Qal x pc c;have hk:=Qag x pc c;have wX:=Qai hl;obtain ⟨V,hV⟩:∃ V,Qbv o (x.getD B 0) (w32 m)=V:=⟨_,rfl⟩;obtain ⟨PP,qV⟩:∃ PP,w32 ((pc:Int)+4)=PP:=⟨_,rfl⟩;rw [hV,qV];rw [qV] at q4;have gZ:=Qdk o (x.getD B 0) (w32 m) xB (by first|exact xC|exact lm);rw [← Qbj o (x.getD B 0) (w32 m) xB (by first|exact xC|exact lm),hV] at gZ;exact QIg
theorem Qwo (x:List Nat) (pc:Nat) (c:List Nat) (o:Int) (A B C:Nat) (m:Int) (hx:x.length=16) (hc:c.length=8) (hY:∀ y∈x,y<4294967296) (gA:∀ y∈c,y<4294967296) (gQ:pc<4294967296) (hA:A<16) (hB:B<16) (hC:C<16) (hm:o=58→0≤m∧m<8) (gB: -32768≤m∧m≤65535) (ho:o=24) :
  FN 201 [.agg (Qay x pc c),.agg (iv o A B C m)] [] (· =⟨.tup [.agg (Qay (exX x pc c o A B C m) (exP x pc c o A B m) (exC x pc c o A m)),.agg (exE x o A m)],[],[]⟩):=by
 have eX:exX x pc c o A B C m=QaE x A (w32 ((w32 m:Nat)*65536)):=by unfold exX;rw [zN (by omega),zN (by omega),zP (by omega)]
 have eP:exP x pc c o A B m=w32 ((pc:Int)+4):=QiB;have eC:exC x pc c o A m=c:=Qci;have eE:exE x o A m= [.i 0,.i 0,.i 0,.u (0:Nat)]:=Qkd;rw [eX,eP,eC,eE];have rA:=Qaw x pc c A hx hA;have rB:=Qaw x pc c B hx hB;have rC:=Qaw x pc c C hx hC;have gp:=QaB x pc c hx;have qm:IntKind.u32.wrap m=((w32 m:Nat):Int):=Qat m;have q4:IntKind.u32.wrap ((pc:Int)+4)=((w32 ((pc:Int)+4):Nat):Int):=Qat _;have xA:=Qab hY A;have xB:=Qab hY B;have xC:=Qab hY C;have lm:=QaH m;have hl:=Qap x pc c hx hc;have hs:=Qal x pc c;have hk:=Qag x pc c;have wX:=Qai hl;obtain ⟨V,hV⟩:∃ V,w32 ((w32 m:Nat)*65536)=V:=⟨_,rfl⟩;obtain ⟨PP,qV⟩:∃ PP,w32 ((pc:Int)+4)=PP:=⟨_,rfl⟩;rw [hV,qV];rw [qV] at q4;have q16:IntKind.u32.wrap (((w32 m:Nat):Int)*2^min (Int.toNat 16) IntKind.u32.bits)=(V:Int):=by rw [show (2:Int)^min (Int.toNat 16) IntKind.u32.bits=65536 from rfl,Qat,hV]
 have gN:=Qhs x pc c A V hx hc hA;have hl2:=Qap (QaE x A V) pc c (by rw [Qaz];exact hx) hc;have gY:=Qal (QaE x A V) pc c;have jC:=Qag (QaE x A V) pc c;have wK:QaC (Qay x pc c) 0 (Qay (QaE x A V) pc c)=Qay (QaE x A V) pc c:=Qch (by omega);have jB:=QaR (QaE x A V) pc c PP (by rw [Qaz];exact hx);have jF:=Qap (QaE x A V) PP c (by rw [Qaz];exact hx) hc;have fH:=Qal (QaE x A V) PP c;have wU:=Qag (QaE x A V) PP c;have yO:=Qai jF;have gp2:=QaB (QaE x A V) pc c (by rw [Qaz];exact hx);generalize Qay (QaE x A V) PP c=C3,Qay (QaE x A V) pc c=C2 at *;clear eX eP eC eE hY gA hm;generalize x.getD A 0=vA,x.getD B 0=vB,x.getD C 0=vC at *;skip;generalize Qay x pc c=CC,w32 m=mm,w32 ((pc:Int)+4)=p4 at *;refine fnW Tryz.func201 ?_;(repeat' ((conv=>whnf);first|exact zi2|(refine zj0 ?_;intro hb)|refine QDM ?_|(with_reducible first|refine zv qm ?_|refine zv q4 ?_|refine zv q16 ?_)|refine QAm ?_|refine QxP ?_|refine zq5 ?_|(refine zpu gN ?_)|refine zse ?_|refine zbb ?_ ?_))
 all_goals exact zF_
theorem Qxa (x:List Nat) (pc:Nat) (c:List Nat) (o:Int) (A B C:Nat) (m:Int) (hx:x.length=16) (hc:c.length=8) (hY:∀ y∈x,y<4294967296) (gA:∀ y∈c,y<4294967296) (gQ:pc<4294967296) (hA:A<16) (hB:B<16) (hC:C<16) (hm:o=58→0≤m∧m<8) (gB: -32768≤m∧m≤65535) (ho:o=48) :
  FN 201 [.agg (Qay x pc c),.agg (iv o A B C m)] [] (· =⟨.tup [.agg (Qay (exX x pc c o A B C m) (exP x pc c o A B m) (exC x pc c o A m)),.agg (exE x o A m)],[],[]⟩):=by
 have eX:exX x pc c o A B C m=QaE x A (w32 ((pc:Int)+4)):=QFZ;have eP:exP x pc c o A B m=w32 ((pc:Int)+w32 (4*(w32 m:Nat))):=by unfold exP;rw [zN (by omega),zP (by omega)]
 have eC:exC x pc c o A m=c:=Qci;have eE:exE x o A m= [.i 0,.i 0,.i 0,.u (0:Nat)]:=Qkd;rw [eX,eP,eC,eE];have rA:=Qaw x pc c A hx hA;have rB:=Qaw x pc c B hx hB;have rC:=Qaw x pc c C hx hC;have gp:=QaB x pc c hx;have qm:IntKind.u32.wrap m=((w32 m:Nat):Int):=Qat m;have q4:IntKind.u32.wrap ((pc:Int)+4)=((w32 ((pc:Int)+4):Nat):Int):=Qat _;have xA:=Qab hY A;have xB:=Qab hY B;have xC:=Qab hY C;have lm:=QaH m;have hl:=Qap x pc c hx hc;have hs:=Qal x pc c;have hk:=Qag x pc c;have wX:=Qai hl;obtain ⟨V,hV⟩:∃ V,w32 ((pc:Int)+4)=V:=⟨_,rfl⟩;obtain ⟨PP,qV⟩:∃ PP,w32 ((pc:Int)+w32 (4*(w32 m:Nat)))=PP:=⟨_,rfl⟩;rw [hV,qV];rw [hV] at q4;have q4m:IntKind.u32.wrap (4*((w32 m:Nat):Int))=((w32 (4*(w32 m:Nat)):Nat):Int):=Qat _;have qT:IntKind.u32.wrap ((pc:Int)+((w32 (4*(w32 m:Nat)):Nat):Int))=(PP:Int):=by rw [Qat,qV]
 have gN:=Qhs x pc c A V hx hc hA;have hl2:=Qap (QaE x A V) pc c (by rw [Qaz];exact hx) hc;have gY:=Qal (QaE x A V) pc c;have jC:=Qag (QaE x A V) pc c;have wK:QaC (Qay x pc c) 0 (Qay (QaE x A V) pc c)=Qay (QaE x A V) pc c:=Qch (by omega);have jB:=QaR (QaE x A V) pc c PP (by rw [Qaz];exact hx);have jF:=Qap (QaE x A V) PP c (by rw [Qaz];exact hx) hc;have fH:=Qal (QaE x A V) PP c;have wU:=Qag (QaE x A V) PP c;have yO:=Qai jF;have gp2:=QaB (QaE x A V) pc c (by rw [Qaz];exact hx);generalize Qay (QaE x A V) PP c=C3,Qay (QaE x A V) pc c=C2 at *;clear eX eP eC eE hY gA hm;generalize x.getD A 0=vA,x.getD B 0=vB,x.getD C 0=vC,w32 (4*((w32 m:Nat):Int))=m4,Qay x pc c=CC at *;generalize w32 m=mm,w32 ((pc:Int)+4)=p4 at *;refine fnW Tryz.func201 ?_;(repeat' ((conv=>whnf);first|exact zi2|(refine zj0 ?_;intro hb)|((with_reducible apply Ge.mk (α:=SV)); · first|exact rA|exact rB|exact gp|exact gp2)|refine QEg ?_|refine QAm ?_|refine QxP ?_|refine zq5 ?_|(refine zpu gN ?_)|refine zse ?_|refine zbb ?_ ?_))
 all_goals exact zF_
theorem Que (x:List Nat) (pc:Nat) (c:List Nat) (o:Int) (A B C:Nat) (m:Int) (hx:x.length=16) (hc:c.length=8) (hY:∀ y∈x,y<4294967296) (gA:∀ y∈c,y<4294967296) (gQ:pc<4294967296) (hA:A<16) (hB:B<16) (hC:C<16) (hm:o=58→0≤m∧m<8) (gB: -32768≤m∧m≤65535) (ho:o=49) :
  FN 201 [.agg (Qay x pc c),.agg (iv o A B C m)] [] (· =⟨.tup [.agg (Qay (exX x pc c o A B C m) (exP x pc c o A B m) (exC x pc c o A m)),.agg (exE x o A m)],[],[]⟩):=by
 have eX:exX x pc c o A B C m=QaE x A (w32 ((pc:Int)+4)):=QFZ;have eP:exP x pc c o A B m=w32 ((x.getD B 0:Nat)+(w32 m:Nat)):=by unfold exP;rw [zN (by omega),zN (by omega),zP (by omega)]
 have eC:exC x pc c o A m=c:=Qci;have eE:exE x o A m= [.i 0,.i 0,.i 0,.u (0:Nat)]:=Qkd;rw [eX,eP,eC,eE];have rA:=Qaw x pc c A hx hA;have rB:=Qaw x pc c B hx hB;have rC:=Qaw x pc c C hx hC;have gp:=QaB x pc c hx;have qm:IntKind.u32.wrap m=((w32 m:Nat):Int):=Qat m;have q4:IntKind.u32.wrap ((pc:Int)+4)=((w32 ((pc:Int)+4):Nat):Int):=Qat _;have xA:=Qab hY A;have xB:=Qab hY B;have xC:=Qab hY C;have lm:=QaH m;have hl:=Qap x pc c hx hc;have hs:=Qal x pc c;have hk:=Qag x pc c;have wX:=Qai hl;obtain ⟨V,hV⟩:∃ V,w32 ((pc:Int)+4)=V:=⟨_,rfl⟩;obtain ⟨PP,qV⟩:∃ PP,w32 ((x.getD B 0:Nat)+(w32 m:Nat))=PP:=⟨_,rfl⟩;rw [hV,qV];rw [hV] at q4;have qT:IntKind.u32.wrap (((x.getD B 0:Nat):Int)+((w32 m:Nat):Int))=(PP:Int):=by rw [Qat,qV]
 have gN:=Qhs x pc c A V hx hc hA;have hl2:=Qap (QaE x A V) pc c (by rw [Qaz];exact hx) hc;have gY:=Qal (QaE x A V) pc c;have jC:=Qag (QaE x A V) pc c;have wK:QaC (Qay x pc c) 0 (Qay (QaE x A V) pc c)=Qay (QaE x A V) pc c:=Qch (by omega);have jB:=QaR (QaE x A V) pc c PP (by rw [Qaz];exact hx);have jF:=Qap (QaE x A V) PP c (by rw [Qaz];exact hx) hc;have fH:=Qal (QaE x A V) PP c;have wU:=Qag (QaE x A V) PP c;have yO:=Qai jF;have gp2:=QaB (QaE x A V) pc c (by rw [Qaz];exact hx);generalize Qay (QaE x A V) PP c=C3,Qay (QaE x A V) pc c=C2 at *;clear eX eP eC eE hY gA hm;generalize x.getD A 0=vA,x.getD B 0=vB,x.getD C 0=vC at *;skip;generalize Qay x pc c=CC,w32 m=mm,w32 ((pc:Int)+4)=p4 at *;refine fnW Tryz.func201 ?_;(repeat' ((conv=>whnf);first|exact zi2|(refine zj0 ?_;intro hb)|refine QDM ?_|(with_reducible first|refine zv qm ?_|refine zv q4 ?_|refine zv qT ?_)|refine QAm ?_|refine QxP ?_|refine zq5 ?_|(refine zpu gN ?_)|refine zse ?_|refine zbb ?_ ?_))
 all_goals exact zF_
theorem QsC (x:List Nat) (pc:Nat) (c:List Nat) (o:Int) (A B C:Nat) (m:Int) (hx:x.length=16) (hc:c.length=8) (hY:∀ y∈x,y<4294967296) (gA:∀ y∈c,y<4294967296) (gQ:pc<4294967296) (hA:A<16) (hB:B<16) (hC:C<16) (hm:o=58→0≤m∧m<8) (gB: -32768≤m∧m≤65535) (ho:o=58) :
  FN 201 [.agg (Qay x pc c),.agg (iv o A B C m)] [] (· =⟨.tup [.agg (Qay (exX x pc c o A B C m) (exP x pc c o A B m) (exC x pc c o A m)),.agg (exE x o A m)],[],[]⟩):=by
 have eX:exX x pc c o A B C m=QaE x A (c.getD m.toNat 0):=QoV;have eP:exP x pc c o A B m=w32 ((pc:Int)+4):=QiB;have eC:exC x pc c o A m=c:=Qci;have eE:exE x o A m= [.i 0,.i 0,.i 0,.u (0:Nat)]:=Qkd;rw [eX,eP,eC,eE];have rA:=Qaw x pc c A hx hA;have rB:=Qaw x pc c B hx hB;have rC:=Qaw x pc c C hx hC;have gp:=QaB x pc c hx;have qm:IntKind.u32.wrap m=((w32 m:Nat):Int):=Qat m;have q4:IntKind.u32.wrap ((pc:Int)+4)=((w32 ((pc:Int)+4):Nat):Int):=Qat _;have xA:=Qab hY A;have xB:=Qab hY B;have xC:=Qab hY C;have lm:=QaH m;have hl:=Qap x pc c hx hc;have hs:=Qal x pc c;have hk:=Qag x pc c;have wX:=Qai hl;obtain ⟨V,hV⟩:∃ V,c.getD m.toNat 0=V:=⟨_,rfl⟩;obtain ⟨PP,qV⟩:∃ PP,w32 ((pc:Int)+4)=PP:=⟨_,rfl⟩;rw [hV,qV];rw [qV] at q4;have hm8:=hm ho;have rM:=Qdu x pc c m.toNat hx hc (by omega);rw [hV] at rM;have gN:=Qhs x pc c A V hx hc hA;have hl2:=Qap (QaE x A V) pc c (by rw [Qaz];exact hx) hc;have gY:=Qal (QaE x A V) pc c;have jC:=Qag (QaE x A V) pc c;have wK:QaC (Qay x pc c) 0 (Qay (QaE x A V) pc c)=Qay (QaE x A V) pc c:=Qch (by omega);have jB:=QaR (QaE x A V) pc c PP (by rw [Qaz];exact hx);have jF:=Qap (QaE x A V) PP c (by rw [Qaz];exact hx) hc;have fH:=Qal (QaE x A V) PP c;have wU:=Qag (QaE x A V) PP c;have yO:=Qai jF;have gp2:=QaB (QaE x A V) pc c (by rw [Qaz];exact hx);generalize Qay (QaE x A V) PP c=C3,Qay (QaE x A V) pc c=C2 at *;clear eX eP eC eE hY gA hm;generalize x.getD A 0=vA,x.getD B 0=vB,x.getD C 0=vC at *;skip;generalize Qay x pc c=CC,w32 m=mm,w32 ((pc:Int)+4)=p4 at *;refine fnW Tryz.func201 ?_;(repeat' ((conv=>whnf);first|exact zi2|(refine zj0 ?_;intro hb)|((with_reducible apply Ge.mk (α:=SV)); · first|exact rA|exact rB|exact gp|exact rM)|refine QwF ?_|refine QAm ?_|refine QxP ?_|(apply Sd.mk; · first|exact ⟨jF,wU,rfl,(by show 0+C3.length≤25;omega)⟩|exact ⟨hl2,jC,rfl,(by show 0+C2.length≤CC.length;omega)⟩|(refine ⟨rfl,rfl,rfl,?_⟩;show 16+1≤C2.length;omega)|(show (0:Int)≤A∧(A:Int)<16;omega)|(show (0:Int)≤B∧(B:Int)<16;omega)|(show (0:Int)≤m∧m<(8:Int);omega))|(refine zpu gN ?_)|refine zse ?_|refine zbb ?_ ?_))
 all_goals exact zF_
theorem Qks (x:List Nat) (pc:Nat) (c:List Nat) (o:Int) (A B C:Nat) (m:Int) (hx:x.length=16) (hc:c.length=8) (hY:∀ y∈x,y<4294967296) (gA:∀ y∈c,y<4294967296) (gQ:pc<4294967296) (hA:A<16) (hB:B<16) (hC:C<16) (hm:o=58→0≤m∧m<8) (gB: -32768≤m∧m≤65535) (ho:(40≤o∧o≤45)∧Qde o (x.getD A 0) (x.getD B 0)=true) :
  FN 201 [.agg (Qay x pc c),.agg (iv o A B C m)] [] (· =⟨.tup [.agg (Qay (exX x pc c o A B C m) (exP x pc c o A B m) (exC x pc c o A m)),.agg (exE x o A m)],[],[]⟩):=by
 have eX:exX x pc c o A B C m=x:=Qg6;have eP:exP x pc c o A B m=w32 ((pc:Int)+w32 (4*(w32 m:Nat))):=Qxf;have eC:exC x pc c o A m=c:=Qci;have eE:exE x o A m= [.i 0,.i 0,.i 0,.u (0:Nat)]:=Qkd;rw [eX,eP,eC,eE];have rA:=Qaw x pc c A hx hA;have rB:=Qaw x pc c B hx hB;have rC:=Qaw x pc c C hx hC;have gp:=QaB x pc c hx;have qm:IntKind.u32.wrap m=((w32 m:Nat):Int):=Qat m;have q4:IntKind.u32.wrap ((pc:Int)+4)=((w32 ((pc:Int)+4):Nat):Int):=Qat _;have xA:=Qab hY A;have xB:=Qab hY B;have xC:=Qab hY C;have lm:=QaH m;have hl:=Qap x pc c hx hc;have hs:=Qal x pc c;have hk:=Qag x pc c;have wX:=Qai hl;obtain ⟨PP,qV⟩:∃ PP,w32 ((pc:Int)+w32 (4*(w32 m:Nat)))=PP:=⟨_,rfl⟩;rw [qV];have jS:=QlR o (x.getD A 0) (x.getD B 0) xA xB;have q4m:IntKind.u32.wrap (4*((w32 m:Nat):Int))=((w32 (4*(w32 m:Nat)):Nat):Int):=Qat _;rw [ho.2] at jS;have qT:IntKind.u32.wrap ((pc:Int)+((w32 (4*(w32 m:Nat)):Nat):Int))=(PP:Int):=by rw [Qat,qV]
 replace ho:=ho.1;have jB:=QaR x pc c PP hx;have jF:=Qap x PP c hx hc;have fH:=Qal x PP c;have wU:=Qag x PP c;have yO:=Qai jF;generalize Qay x PP c=C3 at *;clear eX eP eC eE hY gA hm;generalize x.getD A 0=vA,x.getD B 0=vB,x.getD C 0=vC,w32 (4*((w32 m:Nat):Int))=m4,Qay x pc c=CC at *;generalize w32 m=mm,w32 ((pc:Int)+4)=p4 at *;refine fnW Tryz.func201 ?_;(repeat' ((conv=>whnf);first|exact zi2|(refine zj0 ?_;intro hb)|refine QDM ?_|refine QEg ?_|refine QIo ?_|(apply Sg.mk; · exact Qa8 C3 jF)|refine QIx ?_|(refine zpu jS ?_)|refine zse ?_|refine zbb ?_ ?_))
 all_goals exact zF_
theorem Qjq (x:List Nat) (pc:Nat) (c:List Nat) (o:Int) (A B C:Nat) (m:Int) (hx:x.length=16) (hc:c.length=8) (hY:∀ y∈x,y<4294967296) (gA:∀ y∈c,y<4294967296) (gQ:pc<4294967296) (hA:A<16) (hB:B<16) (hC:C<16) (hm:o=58→0≤m∧m<8) (gB: -32768≤m∧m≤65535) (ho:(40≤o∧o≤45)∧Qde o (x.getD A 0) (x.getD B 0)=false) :
  FN 201 [.agg (Qay x pc c),.agg (iv o A B C m)] [] (· =⟨.tup [.agg (Qay (exX x pc c o A B C m) (exP x pc c o A B m) (exC x pc c o A m)),.agg (exE x o A m)],[],[]⟩):=by
 have eX:exX x pc c o A B C m=x:=Qg6;have eP:exP x pc c o A B m=w32 ((pc:Int)+4):=Qxf;have eC:exC x pc c o A m=c:=Qci;have eE:exE x o A m= [.i 0,.i 0,.i 0,.u (0:Nat)]:=Qkd;rw [eX,eP,eC,eE];have rA:=Qaw x pc c A hx hA;have rB:=Qaw x pc c B hx hB;have rC:=Qaw x pc c C hx hC;have gp:=QaB x pc c hx;have qm:IntKind.u32.wrap m=((w32 m:Nat):Int):=Qat m;have q4:IntKind.u32.wrap ((pc:Int)+4)=((w32 ((pc:Int)+4):Nat):Int):=Qat _;have xA:=Qab hY A;have xB:=Qab hY B;have xC:=Qab hY C;have lm:=QaH m;have hl:=Qap x pc c hx hc;have hs:=Qal x pc c;have hk:=Qag x pc c;have wX:=Qai hl;obtain ⟨PP,qV⟩:∃ PP,w32 ((pc:Int)+4)=PP:=⟨_,rfl⟩;rw [qV];rw [qV] at q4;have jS:=QlR o (x.getD A 0) (x.getD B 0) xA xB;have q4m:IntKind.u32.wrap (4*((w32 m:Nat):Int))=((w32 (4*(w32 m:Nat)):Nat):Int):=Qat _;rw [ho.2] at jS;replace ho:=ho.1;have jB:=QaR x pc c PP hx;have jF:=Qap x PP c hx hc;have fH:=Qal x PP c;have wU:=Qag x PP c;have yO:=Qai jF;generalize Qay x PP c=C3 at *;clear eX eP eC eE hY gA hm;generalize x.getD A 0=vA,x.getD B 0=vB,x.getD C 0=vC,w32 (4*((w32 m:Nat):Int))=m4,Qay x pc c=CC at *;generalize w32 m=mm,w32 ((pc:Int)+4)=p4 at *;refine fnW Tryz.func201 ?_;(repeat' ((conv=>whnf);first|exact zi2|(refine zj0 ?_;intro hb)|refine QDM ?_|refine QwF ?_|refine QIo ?_|(apply Sg.mk; · exact Qa8 C3 jF)|refine QIx ?_|(refine zpu jS ?_)|refine zse ?_|refine zbb ?_ ?_))
 all_goals exact zF_
theorem Qpl (x:List Nat) (pc:Nat) (c:List Nat) (o:Int) (A B C:Nat) (m:Int) (hx:x.length=16) (hc:c.length=8) (hY:∀ y∈x,y<4294967296) (gA:∀ y∈c,y<4294967296) (gQ:pc<4294967296) (hA:A<16) (hB:B<16) (hC:C<16) (hm:o=58→0≤m∧m<8) (gB: -32768≤m∧m≤65535) (ho:o=56) :
  FN 201 [.agg (Qay x pc c),.agg (iv o A B C m)] [] (· =⟨.tup [.agg (Qay (exX x pc c o A B C m) (exP x pc c o A B m) (exC x pc c o A m)),.agg (exE x o A m)],[],[]⟩):=by
 have eX:exX x pc c o A B C m=x:=Qg6;have eP:exP x pc c o A B m=c.getD 1 0:=QuM;have eC:exC x pc c o A m=trL pc c 7 0:=by unfold exC;rw [zP (by omega)]
 have eE:exE x o A m= [.i 0,.i 0,.i 0,.u (0:Nat)]:=Qkd;rw [eX,eP,eC,eE];have rA:=Qaw x pc c A hx hA;have rB:=Qaw x pc c B hx hB;have rC:=Qaw x pc c C hx hC;have gp:=QaB x pc c hx;have qm:IntKind.u32.wrap m=((w32 m:Nat):Int):=Qat m;have q4:IntKind.u32.wrap ((pc:Int)+4)=((w32 ((pc:Int)+4):Nat):Int):=Qat _;have xA:=Qab hY A;have xB:=Qab hY B;have xC:=Qab hY C;have lm:=QaH m;have hl:=Qap x pc c hx hc;have hs:=Qal x pc c;have hk:=Qag x pc c;have wX:=Qai hl;have fW:=Qeb x pc c 7 0 hx hc gA;rw [Qbo] at fW;have fH:=Qal x (c.getD 1 0) (trL pc c 7 0);have jF:=Qap x (c.getD 1 0) (trL pc c 7 0) hx rfl;have wU:=Qag x (c.getD 1 0) (trL pc c 7 0);have yO:=Qai jF;generalize Qay x (c.getD 1 0) (trL pc c 7 0)=C3 at *;exact QBU
theorem Quh (x:List Nat) (pc:Nat) (c:List Nat) (o:Int) (A B C:Nat) (m:Int) (hx:x.length=16) (hc:c.length=8) (hY:∀ y∈x,y<4294967296) (gA:∀ y∈c,y<4294967296) (gQ:pc<4294967296) (hA:A<16) (hB:B<16) (hC:C<16) (hm:o=58→0≤m∧m<8) (gB: -32768≤m∧m≤65535) (ho:o=57) :
  FN 201 [.agg (Qay x pc c),.agg (iv o A B C m)] [] (· =⟨.tup [.agg (Qay (exX x pc c o A B C m) (exP x pc c o A B m) (exC x pc c o A m)),.agg (exE x o A m)],[],[]⟩):=by
 have eX:exX x pc c o A B C m=x:=Qg6;have eP:exP x pc c o A B m=c.getD 2 0:=QBh;have eC:exC x pc c o A m=c.set 0 (QgC (c.getD 0 0)):=by unfold exC;rw [zN (by omega),zP (by omega)]
 have eE:exE x o A m= [.i 0,.i 0,.i 0,.u (0:Nat)]:=Qkd;rw [eX,eP,eC,eE];have rA:=Qaw x pc c A hx hA;have rB:=Qaw x pc c B hx hB;have rC:=Qaw x pc c C hx hC;have gp:=QaB x pc c hx;have qm:IntKind.u32.wrap m=((w32 m:Nat):Int):=Qat m;have q4:IntKind.u32.wrap ((pc:Int)+4)=((w32 ((pc:Int)+4):Nat):Int):=Qat _;have xA:=Qab hY A;have xB:=Qab hY B;have xC:=Qab hY C;have lm:=QaH m;have hl:=Qap x pc c hx hc;have hs:=Qal x pc c;have hk:=Qag x pc c;have wX:=Qai hl;have fW:=QCE x pc c hx hc gA;unfold QEo at fW;have fH:=Qal x (c.getD 2 0) (c.set 0 (QgC (c.getD 0 0)));have jF:=Qap x (c.getD 2 0) (c.set 0 (QgC (c.getD 0 0))) hx (by simpa using hc);have wU:=Qag x (c.getD 2 0) (c.set 0 (QgC (c.getD 0 0)));have yO:=Qai jF;generalize Qay x (c.getD 2 0) (c.set 0 (QgC (c.getD 0 0)))=C3 at *;exact QBU
theorem QuP (x:List Nat) (pc:Nat) (c:List Nat) (o:Int) (A B C:Nat) (m:Int) (hx:x.length=16) (hc:c.length=8) (hY:∀ y∈x,y<4294967296) (gA:∀ y∈c,y<4294967296) (gQ:pc<4294967296) (hA:A<16) (hB:B<16) (hC:C<16) (hm:o=58→0≤m∧m<8) (gB: -32768≤m∧m≤65535) (ho:o=59) :
  FN 201 [.agg (Qay x pc c),.agg (iv o A B C m)] [] (· =⟨.tup [.agg (Qay (exX x pc c o A B C m) (exP x pc c o A B m) (exC x pc c o A m)),.agg (exE x o A m)],[],[]⟩):=by
 have eX:exX x pc c o A B C m=x:=Qg6;have eP:exP x pc c o A B m=w32 ((pc:Int)+4):=QiB;have eC:exC x pc c o A m=wrL c m (x.getD A 0):=by unfold exC;rw [zN (by omega),zN (by omega),zP (by omega)]
 have eE:exE x o A m= [.i 0,.i 0,.i 0,.u (0:Nat)]:=Qkd;rw [eX,eP,eC,eE];have rA:=Qaw x pc c A hx hA;have rB:=Qaw x pc c B hx hB;have rC:=Qaw x pc c C hx hC;have gp:=QaB x pc c hx;have qm:IntKind.u32.wrap m=((w32 m:Nat):Int):=Qat m;have q4:IntKind.u32.wrap ((pc:Int)+4)=((w32 ((pc:Int)+4):Nat):Int):=Qat _;have xA:=Qab hY A;have xB:=Qab hY B;have xC:=Qab hY C;have lm:=QaH m;have hl:=Qap x pc c hx hc;have hs:=Qal x pc c;have hk:=Qag x pc c;have wX:=Qai hl;have gN:=Quz x pc c m (x.getD A 0) hx hc xA;rw [Qvh] at gN;have hl2:=Qap x pc (wrL c m (x.getD A 0)) hx (by rw [QgE];exact hc);have gY:=Qal x pc (wrL c m (x.getD A 0));have jC:=Qag x pc (wrL c m (x.getD A 0));have wK:QaC (Qay x pc c) 0 (Qay x pc (wrL c m (x.getD A 0)))=Qay x pc (wrL c m (x.getD A 0)):=Qch (by omega);have jB:=QaR x pc (wrL c m (x.getD A 0)) (w32 ((pc:Int)+4)) hx;have jF:=Qap x (w32 ((pc:Int)+4)) (wrL c m (x.getD A 0)) hx (by rw [QgE];exact hc);have fH:=Qal x (w32 ((pc:Int)+4)) (wrL c m (x.getD A 0));have wU:=Qag x (w32 ((pc:Int)+4)) (wrL c m (x.getD A 0));have yO:=Qai jF;have gp2:=QaB x pc (wrL c m (x.getD A 0)) hx;generalize Qay x (w32 ((pc:Int)+4)) (wrL c m (x.getD A 0))=C3,Qay x pc (wrL c m (x.getD A 0))=C2 at *;clear eX eP eC eE hY gA hm;generalize x.getD A 0=vA,x.getD B 0=vB,x.getD C 0=vC at *;skip;generalize Qay x pc c=CC,w32 m=mm,w32 ((pc:Int)+4)=p4 at *;refine fnW Tryz.func201 ?_;(repeat' ((conv=>whnf);first|exact zi2|(refine zj0 ?_;intro hb)|refine QDM ?_|(with_reducible first|refine zv qm ?_|refine zv q4 ?_|refine zv (Qb4 (by omega) (by omega)) ?_)|refine QAm ?_|refine QxP ?_|refine zq5 ?_|(refine zpu gN ?_)|refine zse ?_|refine zbb ?_ ?_))
 all_goals exact zF_
theorem QCr (x:List Nat) (pc:Nat) (c:List Nat) (o:Int) (A B C:Nat) (m:Int) (hx:x.length=16) (hc:c.length=8) (hY:∀ y∈x,y<4294967296) (gA:∀ y∈c,y<4294967296) (gQ:pc<4294967296) (hA:A<16) (hB:B<16) (hC:C<16) (hm:o=58→0≤m∧m<8) (gB: -32768≤m∧m≤65535) (ho:o=60) :
  FN 201 [.agg (Qay x pc c),.agg (iv o A B C m)] [] (· =⟨.tup [.agg (Qay (exX x pc c o A B C m) (exP x pc c o A B m) (exC x pc c o A m)),.agg (exE x o A m)],[],[]⟩):=by
 have eX:exX x pc c o A B C m=x:=Qg6;have eP:exP x pc c o A B m=w32 ((pc:Int)+4):=QiB;have eC:exC x pc c o A m=c:=Qci;have eE:exE x o A m= [.i 1,.i m,.i (A:Nat),.u (0:Nat)]:=by unfold exE;rw [zP (by omega)]
 exact QDV
theorem QwW (x:List Nat) (pc:Nat) (c:List Nat) (o:Int) (A B C:Nat) (m:Int) (hx:x.length=16) (hc:c.length=8) (hY:∀ y∈x,y<4294967296) (gA:∀ y∈c,y<4294967296) (gQ:pc<4294967296) (hA:A<16) (hB:B<16) (hC:C<16) (hm:o=58→0≤m∧m<8) (gB: -32768≤m∧m≤65535) (ho:o=61) :
  FN 201 [.agg (Qay x pc c),.agg (iv o A B C m)] [] (· =⟨.tup [.agg (Qay (exX x pc c o A B C m) (exP x pc c o A B m) (exC x pc c o A m)),.agg (exE x o A m)],[],[]⟩):=by
 have eX:exX x pc c o A B C m=x:=Qg6;have eP:exP x pc c o A B m=w32 ((pc:Int)+4):=QiB;have eC:exC x pc c o A m=c:=Qci;have eE:exE x o A m= [.i 2,.i m,.i 0,.u (x.getD A 0:Nat)]:=by unfold exE;rw [zN (by omega),zP (by omega)]
 exact QDV
theorem QzD (x:List Nat) (pc:Nat) (c:List Nat) (o:Int) (A B C:Nat) (m:Int) (hx:x.length=16) (hc:c.length=8) (hY:∀ y∈x,y<4294967296) (gA:∀ y∈c,y<4294967296) (gQ:pc<4294967296) (hA:A<16) (hB:B<16) (hC:C<16) (hm:o=58→0≤m∧m<8) (gB: -32768≤m∧m≤65535) (ho:o=62) :
  FN 201 [.agg (Qay x pc c),.agg (iv o A B C m)] [] (· =⟨.tup [.agg (Qay (exX x pc c o A B C m) (exP x pc c o A B m) (exC x pc c o A m)),.agg (exE x o A m)],[],[]⟩):=by
 have eX:exX x pc c o A B C m=x:=Qg6;have eP:exP x pc c o A B m=w32 ((pc:Int)+4):=QiB;have eC:exC x pc c o A m=c:=Qci;have eE:exE x o A m= [.i 3,.i 0,.i 0,.u (0:Nat)]:=by unfold exE;rw [zN (by omega),zN (by omega),zP (by omega)]
 exact QDV
theorem QqW (x:List Nat) (pc:Nat) (c:List Nat) (o:Int) (A B C:Nat) (m:Int) (hx:x.length=16) (hc:c.length=8) (hY:∀ y∈x,y<4294967296) (gA:∀ y∈c,y<4294967296) (gQ:pc<4294967296) (hA:A<16) (hB:B<16) (hC:C<16) (hm:o=58→0≤m∧m<8) (gB: -32768≤m∧m≤65535) (ho:o=63) :
  FN 201 [.agg (Qay x pc c),.agg (iv o A B C m)] [] (· =⟨.tup [.agg (Qay (exX x pc c o A B C m) (exP x pc c o A B m) (exC x pc c o A m)),.agg (exE x o A m)],[],[]⟩):=by
 have eX:exX x pc c o A B C m=x:=Qg6;have eP:exP x pc c o A B m=w32 ((pc:Int)+4):=QiB;have eC:exC x pc c o A m=c:=Qci;have eE:exE x o A m= [.i 5,.i 0,.i 0,.u (0:Nat)]:=Qur;exact QDV
theorem QuC (x:List Nat) (pc:Nat) (c:List Nat) (o:Int) (A B C:Nat) (m:Int) (hx:x.length=16) (hc:c.length=8) (hY:∀ y∈x,y<4294967296) (gA:∀ y∈c,y<4294967296) (gQ:pc<4294967296) (hA:A<16) (hB:B<16) (hC:C<16) (hm:o=58→0≤m∧m<8) (gB: -32768≤m∧m≤65535) (ho:o=64) :
  FN 201 [.agg (Qay x pc c),.agg (iv o A B C m)] [] (· =⟨.tup [.agg (Qay (exX x pc c o A B C m) (exP x pc c o A B m) (exC x pc c o A m)),.agg (exE x o A m)],[],[]⟩):=by
 have eX:exX x pc c o A B C m=x:=Qg6;have eP:exP x pc c o A B m=w32 ((pc:Int)+4):=QiB;have eC:exC x pc c o A m=c:=Qci;have eE:exE x o A m= [.i 4,.i 0,.i 0,.u (0:Nat)]:=QjZ;exact QDV
theorem Qhe {xs:List Nat} {n s r va:Nat} {sz ac:Int} (h:rsK xs n s r va sz ac=0):rsO xs n s r va sz ac=true:=by
 unfold rsK at h;split at h
 ·assumption
 ·split at h
  ·omega
  ·split at h
   ·unfold Qcw at h;split at h;omega;split at h<;>omega
   ·omega
theorem Qhj {xs:List Nat} {n s r va:Nat} {sz ac:Int} (h:rsO xs n s r va sz ac=true) (gX:va<4294967296):acB sz n (rsA xs n s r va sz ac)=true∧rsA xs n s r va sz ac<4294967296:=by
 have h0:=h;unfold rsO at h;simp only [Bool.and_eq_true,decide_eq_true_eq] at h;obtain ⟨⟨⟨_,h2⟩,h3⟩,h4⟩:=h;unfold rsA;rw [h0,zP rfl]
 cases hp:Qdc s with
 | false =>
  rw [hp,zN (by decide)] at h4;rw [zN (by decide)];exact ⟨h4,gX⟩
 | true =>
  rw [hp,zP rfl] at h4;rw [zP rfl];unfold Qbp at h4;simp only [Bool.and_eq_true,decide_eq_true_eq] at h4;have hm:=QaU n;have hf:=h4.2;unfold szB at h2;simp only [decide_eq_true_eq] at h2;generalize frW (QaT xs r va)=f at *;refine ⟨?_,by omega⟩;unfold acB;rcases h2 with rfl|rfl
  ·rw [zN (by decide)]
   unfold ld1;exact decide_eq_true (by omega)
  ·rw [zP rfl]
   unfold ld4;rw [decide_eq_true (by omega),decide_eq_true (by omega)];rfl
def ftW (xs:List Nat) (n s r pc:Nat):Nat:=if rsK xs n s r pc 4 1=0 then (rsM xs n s r pc 4 1).getD (rsA xs n s r pc 4 1 / 4) 0 else 0
theorem QoN (xs:List Nat) (n s r pc:Nat) (hY:∀ y∈xs,y<4294967296):ftW xs n s r pc<4294967296:=by
 unfold ftW;split
 ·exact Qab (Qc6 xs n s r pc 4 1 hY) _
 ·decide
theorem Qpy (x:List Nat) (pc:Nat) (c:List Nat) (xs:List Nat) (n:Nat) (hx:x.length=16) (hc:c.length=8) (gK:∀ y∈c,y<4294967296) (gQ:pc<4294967296) (hl:xs.length=n) (hY:∀ y∈xs,y<4294967296) (hn:n<4294967296) :
  FN 197 [.agg (Qay x pc c),.s (.sl 0 0 n)] [⟨false,1,wsv xs⟩]
   (· =⟨.tup [.s (.u (ftW xs n (c.getD 0 0) (c.getD 6 0) pc:Nat)),.s (.sl 1 0 n),.s (.i (rsK xs n (c.getD 0 0) (c.getD 6 0) pc 4 1))],[],[⟨true,1,wsv (rsM xs n (c.getD 0 0) (c.getD 6 0) pc 4 1)⟩]⟩):=by
 have hr:=Qei x pc c xs n pc 4 1 hx hc gK hl hY hn gQ;have gR:=Qap (x) (pc) (c) hx hc;have jI:=Qal (x) (pc) (c);have qR:=Qag (x) (pc) (c);have qW:=Qai gR;have gpCC:=QaB (x) (pc) (c) hx;generalize c.getD 0 0=S,c.getD 6 0=R at *;have gL:=Qaa xs;have HZ:=Qaa (rsM xs n S R pc 4 1);unfold ftW
 by_cases hK:rsK xs n S R pc 4 1=0
 ·have hok:=Qhe hK
  obtain ⟨ha,vU⟩:=Qhj hok gQ;have qJ:=Qb9 (rsM xs n S R pc 4 1) n (rsA xs n S R pc 4 1) (by rw [Qbl];exact hl) hn vU ha;rw [zP hK];rw [hK] at hr ⊢;generalize rsA xs n S R pc 4 1=AA at *;generalize (rsM xs n S R pc 4 1).getD (AA / 4) 0=W,wsv (rsM xs n S R pc 4 1)=XM,wsv xs=XX,Qay (x) (pc) (c)=CC at *;refine fnW Tryz.func197 ?_;(repeat' ((conv=>whnf);first|exact zi2|(refine zj0 ?_;intro hb)|(apply Sg.mk; · first|exact Qa8 CC gR)|((with_reducible apply Ge.mk (α:=SV)); · first|exact gpCC)|(refine QaD hr ?_)|(refine QaD qJ ?_)|refine zse ?_|refine zbb ?_ ?_))
  all_goals exact Qe8
 ·rw [zN hK]
  generalize rsK xs n S R pc 4 1=K,rsA xs n S R pc 4 1=AA,wsv (rsM xs n S R pc 4 1)=XM,wsv xs=XX,Qay (x) (pc) (c)=CC at *;refine fnW Tryz.func197 ?_;(repeat' ((conv=>whnf);first|exact zi2|(refine zj0 ?_;intro hb)|(apply Sg.mk; · first|exact Qa8 CC gR)|((with_reducible apply Ge.mk (α:=SV)); · first|exact gpCC)|(refine QaD hr ?_)|refine zse ?_|refine zbb ?_ ?_))
  all_goals exact Qe8
def wd (o:Int):Int:=if o=32∨o=35 then 4 else 1
theorem QlF (o:Int) (h:32≤o∧o≤36):FN 233 [.s (.i o)] [] (· =⟨.a (.s (.i (wd o))),[],[]⟩):=by
 have e:o=32∨o=33∨o=34∨o=35∨o=36:=by omega
 rcases e with rfl|rfl|rfl|rfl|rfl
 all_goals
  refine fnW Tryz.func233 ?_;(repeat' ((conv=>whnf);first|exact zi0|(refine zj0 ?_;intro hb)|refine zs0 ?_|refine zbb ?_ ?_));all_goals (conv=>whnf)
  all_goals exact Qam rfl rfl
def sx8 (x:Nat):Nat:=if x%256<128 then x%256 else x%256+4294967040
theorem QJ8 (x:Nat) (hx:x<4294967296):IntKind.u32.wrap ((x:Int)*2^min ((32:Int)-8).toNat IntKind.u32.bits)=((x%256:Nat):Int)*16777216:=by
 rw [show (2:Int)^min ((32:Int)-8).toNat IntKind.u32.bits=16777216 from rfl,Qcf];omega
theorem QIU (x:Nat) (hx:x<256):IntKind.i32.wrap ((x:Int)*16777216)=(if x<128 then (x:Int) else x-256)*16777216:=by
 unfold IntKind.wrap;simp only [IntKind.signed,IntKind.bits,Bool.true_and,decide_eq_true_eq]
 by_cases h:x<128
 ·rw [zP h,zN (by simp;omega)];omega
 ·rw [zN h,zP (by simp;omega)];omega
theorem QJw (x:Int):x*16777216 / 2^min ((32:Int)-8).toNat IntKind.i32.bits=x:=by
 rw [show (2:Int)^min ((32:Int)-8).toNat IntKind.i32.bits=16777216 from rfl];omega
theorem QIN (x:Nat):IntKind.u32.wrap (if x%256<128 then ((x%256:Nat):Int) else ((x%256:Nat):Int)-256)=(sx8 x:Nat):=by
 unfold sx8;rw [Qcf]
 by_cases h:x%256<128
 ·rw [zP h,zP h];omega
 ·rw [zN h,zN h];omega
theorem QBB (x:Nat) (hx:x<4294967296):FN 187 [.s (.u x),.s (.i 8)] [] (· =⟨.a (.s (.u (sx8 x:Nat))),[],[]⟩):=by
 refine fnW Tryz.func187 ?_;(repeat' ((conv=>whnf);first|exact zi0|(refine zj0 ?_;intro hb)|((with_reducible apply Vl.mk (α:=Int)); · first|exact QJ8 x hx|exact QIU (x%256) (by omega)|exact QJw _|exact QIN x)|refine zs0 ?_|refine zbb ?_ ?_));all_goals (conv=>whnf)
 all_goals exact Qam rfl rfl
theorem QCc (x:Nat):sx8 x<4294967296:=by unfold sx8;split<;>omega
theorem Qpt (w a:Nat):byN w a<256:=Nat.mod_lt _ (by decide)
def ldV (o:Int) (M:List Nat) (a:Nat):Nat:=if o=32 then M.getD (a / 4) 0 else if o=33 then sx8 (byN (M.getD (a / 4) 0) a) else byN (M.getD (a / 4) 0) a
theorem Qv1 (o:Int) (M:List Nat) (a:Nat) (h:∀ y∈M,y<4294967296):ldV o M a<4294967296:=by
 have:=Qab h (a / 4);have:=Qpt (M.getD (a / 4) 0) a;have:=QCc (byN (M.getD (a / 4) 0) a);unfold ldV;split;assumption;split<;>omega
def stM (o:Int) (M:List Nat) (a v:Nat):List Nat:=if o=35 then M.set (a / 4) v else Qnv M a v
theorem Qcr (o:Int) (M:List Nat) (a v:Nat):(stM o M a v).length=M.length:=by unfold stM Qnv;split<;>simp
theorem Qqk (o:Int) (M:List Nat) (a v:Nat) (h:∀ y∈M,y<4294967296) (hv:v<4294967296):∀ y∈stM o M a v,y<4294967296:=by
 unfold stM Qnv;split
 ·exact Qge h _ _ hv
 ·exact Qge h _ _ (QD2 _ _ _)
def vaO (x:List Nat) (B:Nat) (m:Int):Nat:=w32 ((x.getD B 0:Nat)+(w32 m:Nat))
def ldX (x:List Nat) (xs:List Nat) (n s r va:Nat) (o:Int) (A:Nat):List Nat:=if rsK xs n s r va (wd o) 2=0 then QaE x A (ldV o (rsM xs n s r va (wd o) 2) (rsA xs n s r va (wd o) 2)) else x
def trP (pc:Nat) (c:List Nat) (K:Int):Nat:=if K=0 then w32 ((pc:Int)+4) else c.getD 1 0
def trC (pc:Nat) (c:List Nat) (K:Int) (va:Nat):List Nat:=if K=0 then c else trL pc c K va
def stX (xs:List Nat) (n s r va v:Nat) (o:Int):List Nat:=if rsK xs n s r va (wd o) 3=0 then stM o (rsM xs n s r va (wd o) 3) (rsA xs n s r va (wd o) 3) v else rsM xs n s r va (wd o) 3
theorem QsK (x:List Nat) (pc:Nat) (c:List Nat) (xs:List Nat) (n:Nat) (o:Int) (A B C:Nat) (m:Int) (hx:x.length=16) (hc:c.length=8) (gK:∀ y∈c,y<4294967296) (gQ:pc<4294967296) (hl:xs.length=n) (hY:∀ y∈xs,y<4294967296) (hn:n<4294967296) (jU:∀ y∈x,y<4294967296) (hA:A<16) (hB:B<16) (ho:32≤o∧o≤34) :
  FN 199 [.agg (Qay x pc c),.s (.sl 0 0 n),.agg (iv o A B C m)] [⟨false,1,wsv xs⟩]
   (· =⟨.tup [.agg (Qay (ldX x xs n (c.getD 0 0) (c.getD 6 0) (vaO x B m) o A) (trP pc c (rsK xs n (c.getD 0 0) (c.getD 6 0) (vaO x B m) (wd o) 2)) (trC pc c (rsK xs n (c.getD 0 0) (c.getD 6 0) (vaO x B m) (wd o) 2) (vaO x B m))),.s (.sl 1 0 n)],[],[⟨true,1,wsv (rsM xs n (c.getD 0 0) (c.getD 6 0) (vaO x B m) (wd o) 2)⟩]⟩):=by
 have gX:vaO x B m<4294967296:=QaH _;have VI:=QlF o (by omega);have hr:=Qei x pc c xs n (vaO x B m) (wd o) 2 hx hc gK hl hY hn gX;have rA:=Qaw x pc c A hx hA;have rB:=Qaw x pc c B hx hB;have xA:=Qab jU A;have qm:IntKind.u32.wrap m=((w32 m:Nat):Int):=Qat m;have q4:IntKind.u32.wrap ((pc:Int)+4)=((w32 ((pc:Int)+4):Nat):Int):=Qat _;have qv:IntKind.u32.wrap (((x.getD B 0:Nat):Int)+((w32 m:Nat):Int))=((vaO x B m:Nat):Int):=Qat _;have gL:=Qaa xs;generalize c.getD 0 0=S,c.getD 6 0=R,vaO x B m=va at *;have gR:=Qap (x) (pc) (c) hx hc;have jI:=Qal (x) (pc) (c);have qR:=Qag (x) (pc) (c);have qW:=Qai gR;have gpCC:=QaB (x) (pc) (c) hx;have HZ:=Qaa (rsM xs n S R va (wd o) 2);unfold ldX trP trC
 by_cases hK:rsK xs n S R va (wd o) 2=0
 ·have hok:=Qhe hK
  obtain ⟨ha,vU⟩:=Qhj hok gX;have gI:(rsM xs n S R va (wd o) 2).length=n:=by rw [Qbl];exact hl
  have gB:=Qc6 xs n S R va (wd o) 2 hY;rw [zP hK,zP hK,zP hK];rw [hK] at hr;generalize rsM xs n S R va (wd o) 2=M,rsA xs n S R va (wd o) 2=AA at *
  obtain ⟨V0,qJ,hV⟩:∃ V0,FN 115 [.s (.sl 0 0 n),.s (.u AA),.s (.i (wd o))] [⟨false,1,wsv M⟩] (· =⟨.tup [.s (.u ((V0:Nat):Int)),.s (.bool true)],[],[]⟩)∧V0<4294967296∧ldV o M AA=(if o=33 then sx8 V0 else V0):=by
   by_cases h32:o=32
   ·subst h32
    exact ⟨_,Qb9 M n AA gI hn vU ha,Qab gB _,rfl⟩
   ·have wK:wd o=1:=zN (by omega)
    rw [wK] at ha ⊢;refine ⟨_,Qme M n AA gI gB hn vU ha,Nat.lt_trans (Qpt _ _) (by decide),?_⟩;unfold ldV;rw [zN h32]
  have GF:=QBB V0 hV.1;obtain ⟨V,WT⟩:∃ V,ldV o M AA=V:=⟨_,rfl⟩;rw [WT] at hV ⊢;have gN:=Qhs x pc c A V hx hc hA;have jB:=QaR (QaE x A V) pc c (w32 ((pc:Int)+4)) (by rw [Qaz];exact hx);have qO:=Qap (QaE x A V) (pc) (c) (by rw [Qaz];exact hx) hc;have uL:=Qal (QaE x A V) (pc) (c);have jQ:=Qag (QaE x A V) (pc) (c);have wL:=Qai qO;have gpC2:=QaB (QaE x A V) (pc) (c) (by rw [Qaz];exact hx);have gC:=Qap (QaE x A V) (w32 ((pc:Int)+4)) (c) (by rw [Qaz];exact hx) hc;have qA:=Qal (QaE x A V) (w32 ((pc:Int)+4)) (c);have gS:=Qag (QaE x A V) (w32 ((pc:Int)+4)) (c);have fF:=Qai gC;have gpC3:=QaB (QaE x A V) (w32 ((pc:Int)+4)) (c) (by rw [Qaz];exact hx);clear WT;generalize wsv M=XM,wsv xs=XX,x.getD A 0=vA,x.getD B 0=vB,w32 m=mm,Qay (QaE x A V) (w32 ((pc:Int)+4)) (c)=C3,Qay (QaE x A V) (pc) (c)=C2,Qay (x) (pc) (c)=CC at *;generalize w32 ((pc:Int)+4)=p4 at *;have e:o=32∨o=33∨o=34:=by omega
  have hV0:=hV.1;rcases e with rfl|rfl|rfl
  all_goals first
   | (
     obtain hq:V=sx8 V0:=hV.2;rw [← hq] at GF
     clear hq hV)
   | (
     obtain rfl:V=V0:=hV.2
     clear hV)
  all_goals
   refine fnW Tryz.func199 ?_;(repeat' ((conv=>whnf);first|exact zi2|(refine zj0 ?_;intro hb)|refine QEu ?_|refine QGe ?_|refine QDY ?_|refine zq1 ?_|((with_reducible apply Ge.mk (α:=SV)); · first|exact rB|exact gpC2)|(refine QaD hr ?_)|(refine QaD qJ ?_)|(refine zpu VI ?_)|(refine zpu GF ?_)|(refine zpu gN ?_)|refine zse ?_|refine zbb ?_ ?_))
   all_goals exact Qe8
 ·have fW:=Qeb x pc c (rsK xs n S R va (wd o) 2) va hx hc gK
  rw [Qbo] at fW;rw [zN hK,zN hK,zN hK];have gC:=Qap (x) (c.getD 1 0) (trL pc c (rsK xs n S R va (wd o) 2) va) hx rfl;have qA:=Qal (x) (c.getD 1 0) (trL pc c (rsK xs n S R va (wd o) 2) va);have gS:=Qag (x) (c.getD 1 0) (trL pc c (rsK xs n S R va (wd o) 2) va);have fF:=Qai gC;have gpC3:=QaB (x) (c.getD 1 0) (trL pc c (rsK xs n S R va (wd o) 2) va) hx;generalize wsv (rsM xs n S R va (wd o) 2)=XM,rsA xs n S R va (wd o) 2=AA,wsv xs=XX,x.getD A 0=vA,x.getD B 0=vB,w32 m=mm,Qay (x) (c.getD 1 0) (trL pc c (rsK xs n S R va (wd o) 2) va)=C3,Qay (x) (pc) (c)=CC at *;generalize rsK xs n S R va (wd o) 2=K at *;generalize wd o=wo at *;refine fnW Tryz.func199 ?_;exact QBj
theorem QpD (x:List Nat) (pc:Nat) (c:List Nat) (xs:List Nat) (n:Nat) (o:Int) (A B C:Nat) (m:Int) (hx:x.length=16) (hc:c.length=8) (gK:∀ y∈c,y<4294967296) (gQ:pc<4294967296) (hl:xs.length=n) (hY:∀ y∈xs,y<4294967296) (hn:n<4294967296) (jU:∀ y∈x,y<4294967296) (hA:A<16) (hB:B<16) (ho:35≤o∧o≤36) :
  FN 200 [.agg (Qay x pc c),.s (.sl 0 0 n),.agg (iv o A B C m)] [⟨false,1,wsv xs⟩]
   (· =⟨.tup [.agg (Qay x (trP pc c (rsK xs n (c.getD 0 0) (c.getD 6 0) (vaO x B m) (wd o) 3)) (trC pc c (rsK xs n (c.getD 0 0) (c.getD 6 0) (vaO x B m) (wd o) 3) (vaO x B m))),.s (.sl 1 0 n)],[],[⟨true,1,wsv (stX xs n (c.getD 0 0) (c.getD 6 0) (vaO x B m) (x.getD A 0) o)⟩]⟩):=by
 have gX:vaO x B m<4294967296:=QaH _;have VI:=QlF o (by omega);have hr:=Qei x pc c xs n (vaO x B m) (wd o) 3 hx hc gK hl hY hn gX;have rA:=Qaw x pc c A hx hA;have rB:=Qaw x pc c B hx hB;have xA:=Qab jU A;have qm:IntKind.u32.wrap m=((w32 m:Nat):Int):=Qat m;have q4:IntKind.u32.wrap ((pc:Int)+4)=((w32 ((pc:Int)+4):Nat):Int):=Qat _;have qv:IntKind.u32.wrap (((x.getD B 0:Nat):Int)+((w32 m:Nat):Int))=((vaO x B m:Nat):Int):=Qat _;have gL:=Qaa xs;generalize c.getD 0 0=S,c.getD 6 0=R,vaO x B m=va at *;have gR:=Qap (x) (pc) (c) hx hc;have jI:=Qal (x) (pc) (c);have qR:=Qag (x) (pc) (c);have qW:=Qai gR;have gpCC:=QaB (x) (pc) (c) hx;have HZ:=Qaa (rsM xs n S R va (wd o) 3);unfold stX trP trC
 by_cases hK:rsK xs n S R va (wd o) 3=0
 ·have hok:=Qhe hK
  obtain ⟨ha,vU⟩:=Qhj hok gX;have gI:(rsM xs n S R va (wd o) 3).length=n:=by rw [Qbl];exact hl
  have gB:=Qc6 xs n S R va (wd o) 3 hY;rw [zP hK,zP hK,zP hK];rw [hK] at hr;generalize rsM xs n S R va (wd o) 3=M,rsA xs n S R va (wd o) 3=AA at *
  have qJ:FN 235 [.s (.sl 0 0 n),.s (.u AA),.s (.i (wd o)),.s (.u (x.getD A 0:Nat))] [⟨false,1,wsv M⟩] (· =⟨.tup [.s (.sl 1 0 n),.s (.bool true)],[],[⟨true,1,wsv (stM o M AA (x.getD A 0))⟩]⟩):=by
   by_cases vH:o=35
   ·subst vH
    exact Qj0 M n AA (x.getD A 0) gI hn vU ha
   ·have wK:wd o=1:=zN (by omega)
    rw [wK] at ha ⊢;unfold stM;rw [zN vH];exact QqK M n AA (x.getD A 0) gI hn vU ha
  have hss:=Qaa (stM o M AA (x.getD A 0));have jB:=QaR x pc c (w32 ((pc:Int)+4)) hx;have gC:=Qap (x) (w32 ((pc:Int)+4)) (c) hx hc;have qA:=Qal (x) (w32 ((pc:Int)+4)) (c);have gS:=Qag (x) (w32 ((pc:Int)+4)) (c);have fF:=Qai gC;have gpC3:=QaB (x) (w32 ((pc:Int)+4)) (c) hx;generalize wsv (stM o M AA (x.getD A 0))=XS,wsv M=XM,wsv xs=XX at *;generalize x.getD A 0=vA,x.getD B 0=vB,w32 m=mm,Qay (x) (w32 ((pc:Int)+4)) (c)=C3,Qay (x) (pc) (c)=CC at *;generalize w32 ((pc:Int)+4)=p4,wd o=wo at *;refine fnW Tryz.func200 ?_;(repeat' ((conv=>whnf);first|exact zi2|(refine zj0 ?_;intro hb)|refine QEu ?_|refine zq9 ?_|refine QEI ?_|refine zq1 ?_|refine QEQ ?_|(refine QaD hr ?_)|(refine QaD qJ ?_)|(refine zpu VI ?_)|refine zse ?_|refine zbb ?_ ?_))
  all_goals exact Qe8
 ·have fW:=Qeb x pc c (rsK xs n S R va (wd o) 3) va hx hc gK
  rw [Qbo] at fW;rw [zN hK,zN hK,zN hK];have gC:=Qap (x) (c.getD 1 0) (trL pc c (rsK xs n S R va (wd o) 3) va) hx rfl;have qA:=Qal (x) (c.getD 1 0) (trL pc c (rsK xs n S R va (wd o) 3) va);have gS:=Qag (x) (c.getD 1 0) (trL pc c (rsK xs n S R va (wd o) 3) va);have fF:=Qai gC;have gpC3:=QaB (x) (c.getD 1 0) (trL pc c (rsK xs n S R va (wd o) 3) va) hx;generalize wsv (rsM xs n S R va (wd o) 3)=XM,rsA xs n S R va (wd o) 3=AA,wsv xs=XX,x.getD A 0=vA,x.getD B 0=vB,w32 m=mm,Qay (x) (c.getD 1 0) (trL pc c (rsK xs n S R va (wd o) 3) va)=C3,Qay (x) (pc) (c)=CC at *;generalize rsK xs n S R va (wd o) 3=K at *;generalize wd o=wo at *;refine fnW Tryz.func200 ?_;exact QBj
def nA (w:Nat):Nat:=w / 2^20%2^4
def nB (w:Nat):Nat:=w / 2^16%2^4
def nC (w:Nat):Nat:=(dC w).toNat
theorem QC3 (w:Nat) (hw:w<4294967296) (h:dOk w=true):FN 120 [.s (.u w)] [] (· =⟨.tup [.agg (iv (dOp w) (dA w) (dB w) (dC w) (dM w)),.s (.bool true)],[],[]⟩):=by
 exact Qtg
theorem QD6 (w:Nat) (hw:w<4294967296) (h:dOk w=false):FN 120 [.s (.u w)] [] (· =⟨.tup [.agg (iv 0 0 0 0 0),.s (.bool false)],[],[]⟩):=by
 exact Qtg
theorem Qic (w:Nat) (h:dOk w=true):dA w=(nA w:Nat)∧nA w<16∧dB w=(nB w:Nat)∧nB w<16∧dC w=(nC w:Nat)∧nC w<16∧(-32768≤dM w∧dM w≤65535)∧(dOp w=58→0≤dM w∧dM w<8) ∧
  (1≤dOp w∧dOp w≤13∨16≤dOp w∧dOp w≤24∨32≤dOp w∧dOp w≤36∨40≤dOp w∧dOp w≤45∨dOp w=48∨dOp w=49∨56≤dOp w∧dOp w≤64):=by
 unfold dOk at h;rw [Bool.and_eq_true] at h;obtain ⟨h1,h2⟩:=h;unfold Qfi at h2;simp only [Bool.and_eq_true,decide_eq_true_eq] at h2;obtain ⟨⟨⟨⟨⟨_,_⟩,_⟩,h6⟩,h7⟩,h8⟩:=h2;have fD:0≤dC w:=by unfold dC;split<;>omega
 have WA:dC w<16:=by
  cases hu:QoJ (dOp w) with
  | false=>unfold dC;rw [hu];simp
  | true =>
   rw [hu] at h6;unfold QlW at h6;simp only [Bool.and_eq_true,decide_eq_true_eq] at h6;omega
 have hcls:1≤dOp w∧dOp w≤13∨16≤dOp w∧dOp w≤24∨32≤dOp w∧dOp w≤36∨40≤dOp w∧dOp w≤45∨dOp w=48∨dOp w=49∨56≤dOp w∧dOp w≤64:=by
  unfold QcM QoS at h1;simp only [Bool.or_eq_true,decide_eq_true_eq] at h1;omega
 refine ⟨rfl,Nat.mod_lt _ (by decide),rfl,Nat.mod_lt _ (by decide),(by unfold nC;omega),(by unfold nC;omega),?_,?_,hcls⟩
 ·have qJ: -32768≤Qgt (dOp w):=by unfold Qgt;split<;>omega
  have hhi:Qg5 (dOp w)≤65535:=by
                      unfold Qg5;repeat' split
                      all_goals omega
  omega
 ·intro h58
  rw [h58] at h7 h8;have a:Qgt 58=0:=rfl;have b:Qg5 58=7:=rfl;omega
structure Ex where
 (x:List Nat) (pc:Nat) (c:List Nat) (m:List Nat) (e:List SV)
def E0:List SV:= [.i 0,.i 0,.i 0,.u (0:Nat)]
def exS (x:List Nat) (pc:Nat) (c:List Nat) (xs:List Nat) (n:Nat):Ex :=
 if rsK xs n (c.getD 0 0) (c.getD 6 0) pc 4 1≠0 then ⟨x,c.getD 1 0,trL pc c (rsK xs n (c.getD 0 0) (c.getD 6 0) pc 4 1) pc,rsM xs n (c.getD 0 0) (c.getD 6 0) pc 4 1,E0⟩
 else if dOk (ftW xs n (c.getD 0 0) (c.getD 6 0) pc)=false then ⟨x,c.getD 1 0,trL pc c 1 (ftW xs n (c.getD 0 0) (c.getD 6 0) pc),rsM xs n (c.getD 0 0) (c.getD 6 0) pc 4 1,E0⟩
 else if 57≤dOp (ftW xs n (c.getD 0 0) (c.getD 6 0) pc)∧c.getD 0 0%2=0 then ⟨x,c.getD 1 0,trL pc c 2 (ftW xs n (c.getD 0 0) (c.getD 6 0) pc),rsM xs n (c.getD 0 0) (c.getD 6 0) pc 4 1,E0⟩
 else if 32≤dOp (ftW xs n (c.getD 0 0) (c.getD 6 0) pc)∧dOp (ftW xs n (c.getD 0 0) (c.getD 6 0) pc)≤34 then
  ⟨ldX x (rsM xs n (c.getD 0 0) (c.getD 6 0) pc 4 1) n (c.getD 0 0) (c.getD 6 0) (vaO x (nB (ftW xs n (c.getD 0 0) (c.getD 6 0) pc)) (dM (ftW xs n (c.getD 0 0) (c.getD 6 0) pc))) (dOp (ftW xs n (c.getD 0 0) (c.getD 6 0) pc)) (nA (ftW xs n (c.getD 0 0) (c.getD 6 0) pc)),
   trP pc c (rsK (rsM xs n (c.getD 0 0) (c.getD 6 0) pc 4 1) n (c.getD 0 0) (c.getD 6 0) (vaO x (nB (ftW xs n (c.getD 0 0) (c.getD 6 0) pc)) (dM (ftW xs n (c.getD 0 0) (c.getD 6 0) pc))) (wd (dOp (ftW xs n (c.getD 0 0) (c.getD 6 0) pc))) 2),
   trC pc c (rsK (rsM xs n (c.getD 0 0) (c.getD 6 0) pc 4 1) n (c.getD 0 0) (c.getD 6 0) (vaO x (nB (ftW xs n (c.getD 0 0) (c.getD 6 0) pc)) (dM (ftW xs n (c.getD 0 0) (c.getD 6 0) pc))) (wd (dOp (ftW xs n (c.getD 0 0) (c.getD 6 0) pc))) 2) (vaO x (nB (ftW xs n (c.getD 0 0) (c.getD 6 0) pc)) (dM (ftW xs n (c.getD 0 0) (c.getD 6 0) pc))),
   rsM (rsM xs n (c.getD 0 0) (c.getD 6 0) pc 4 1) n (c.getD 0 0) (c.getD 6 0) (vaO x (nB (ftW xs n (c.getD 0 0) (c.getD 6 0) pc)) (dM (ftW xs n (c.getD 0 0) (c.getD 6 0) pc))) (wd (dOp (ftW xs n (c.getD 0 0) (c.getD 6 0) pc))) 2,E0⟩
 else if 35≤dOp (ftW xs n (c.getD 0 0) (c.getD 6 0) pc)∧dOp (ftW xs n (c.getD 0 0) (c.getD 6 0) pc)≤36 then
  ⟨x,
   trP pc c (rsK (rsM xs n (c.getD 0 0) (c.getD 6 0) pc 4 1) n (c.getD 0 0) (c.getD 6 0) (vaO x (nB (ftW xs n (c.getD 0 0) (c.getD 6 0) pc)) (dM (ftW xs n (c.getD 0 0) (c.getD 6 0) pc))) (wd (dOp (ftW xs n (c.getD 0 0) (c.getD 6 0) pc))) 3),
   trC pc c (rsK (rsM xs n (c.getD 0 0) (c.getD 6 0) pc 4 1) n (c.getD 0 0) (c.getD 6 0) (vaO x (nB (ftW xs n (c.getD 0 0) (c.getD 6 0) pc)) (dM (ftW xs n (c.getD 0 0) (c.getD 6 0) pc))) (wd (dOp (ftW xs n (c.getD 0 0) (c.getD 6 0) pc))) 3) (vaO x (nB (ftW xs n (c.getD 0 0) (c.getD 6 0) pc)) (dM (ftW xs n (c.getD 0 0) (c.getD 6 0) pc))),
   stX (rsM xs n (c.getD 0 0) (c.getD 6 0) pc 4 1) n (c.getD 0 0) (c.getD 6 0) (vaO x (nB (ftW xs n (c.getD 0 0) (c.getD 6 0) pc)) (dM (ftW xs n (c.getD 0 0) (c.getD 6 0) pc))) (x.getD (nA (ftW xs n (c.getD 0 0) (c.getD 6 0) pc)) 0) (dOp (ftW xs n (c.getD 0 0) (c.getD 6 0) pc)),E0⟩
 else
  ⟨exX x pc c (dOp (ftW xs n (c.getD 0 0) (c.getD 6 0) pc)) (nA (ftW xs n (c.getD 0 0) (c.getD 6 0) pc)) (nB (ftW xs n (c.getD 0 0) (c.getD 6 0) pc)) (nC (ftW xs n (c.getD 0 0) (c.getD 6 0) pc)) (dM (ftW xs n (c.getD 0 0) (c.getD 6 0) pc)),
   exP x pc c (dOp (ftW xs n (c.getD 0 0) (c.getD 6 0) pc)) (nA (ftW xs n (c.getD 0 0) (c.getD 6 0) pc)) (nB (ftW xs n (c.getD 0 0) (c.getD 6 0) pc)) (dM (ftW xs n (c.getD 0 0) (c.getD 6 0) pc)),
   exC x pc c (dOp (ftW xs n (c.getD 0 0) (c.getD 6 0) pc)) (nA (ftW xs n (c.getD 0 0) (c.getD 6 0) pc)) (dM (ftW xs n (c.getD 0 0) (c.getD 6 0) pc)),
   rsM xs n (c.getD 0 0) (c.getD 6 0) pc 4 1,
   exE x (dOp (ftW xs n (c.getD 0 0) (c.getD 6 0) pc)) (nA (ftW xs n (c.getD 0 0) (c.getD 6 0) pc)) (dM (ftW xs n (c.getD 0 0) (c.getD 6 0) pc))⟩
theorem Qyk (x:List Nat) (pc:Nat) (c:List Nat) (o:Int) (A B C:Nat) (m:Int) (hx:x.length=16) (hc:c.length=8) (hY:∀ y∈x,y<4294967296) (gA:∀ y∈c,y<4294967296) (gQ:pc<4294967296) (hA:A<16) (hB:B<16) (hC:C<16) (hm:o=58→0≤m∧m<8) (gB: -32768≤m∧m≤65535) (ho:1≤o∧o≤13∨16≤o∧o≤24∨40≤o∧o≤45∨o=48∨o=49∨56≤o∧o≤64) :
  FN 201 [.agg (Qay x pc c),.agg (iv o A B C m)] [] (· =⟨.tup [.agg (Qay (exX x pc c o A B C m) (exP x pc c o A B m) (exC x pc c o A m)),.agg (exE x o A m)],[],[]⟩):=by
 by_cases h1:1≤o∧o≤13
 ·exact Qtx x pc c o A B C m hx hc hY gA gQ hA hB hC hm gB h1
 by_cases h2:16≤o∧o≤23
 ·exact QuK x pc c o A B C m hx hc hY gA gQ hA hB hC hm gB h2
 by_cases h3:40≤o∧o≤45
 ·cases h:Qde o (x.getD A 0) (x.getD B 0) with
  | true=>exact Qks x pc c o A B C m hx hc hY gA gQ hA hB hC hm gB ⟨h3,h⟩
  | false=>exact Qjq x pc c o A B C m hx hc hY gA gQ hA hB hC hm gB ⟨h3,h⟩
 have e:o=24∨o=48∨o=49∨o=56∨o=57∨o=58∨o=59∨o=60∨o=61∨o=62∨o=63∨o=64:=by omega
 rcases e with h|h|h|h|h|h|h|h|h|h|h|h
 ·exact Qwo x pc c o A B C m hx hc hY gA gQ hA hB hC hm gB h
 ·exact Qxa x pc c o A B C m hx hc hY gA gQ hA hB hC hm gB h
 ·exact Que x pc c o A B C m hx hc hY gA gQ hA hB hC hm gB h
 ·exact Qpl x pc c o A B C m hx hc hY gA gQ hA hB hC hm gB h
 ·exact Quh x pc c o A B C m hx hc hY gA gQ hA hB hC hm gB h
 ·exact QsC x pc c o A B C m hx hc hY gA gQ hA hB hC hm gB h
 ·exact QuP x pc c o A B C m hx hc hY gA gQ hA hB hC hm gB h
 ·exact QCr x pc c o A B C m hx hc hY gA gQ hA hB hC hm gB h
 ·exact QwW x pc c o A B C m hx hc hY gA gQ hA hB hC hm gB h
 ·exact QzD x pc c o A B C m hx hc hY gA gQ hA hB hC hm gB h
 ·exact QqW x pc c o A B C m hx hc hY gA gQ hA hB hC hm gB h
 ·exact QuC x pc c o A B C m hx hc hY gA gQ hA hB hC hm gB h
theorem Qec (x:List Nat) (pc:Nat) (c:List Nat) (o:Int) (A B C:Nat) (m:Int):(exX x pc c o A B C m).length=x.length:=by
 unfold exX
 repeat' split
 all_goals simp only [Qaz]
theorem QhV (x:List Nat) (pc:Nat) (c:List Nat) (o:Int) (A:Nat) (m:Int) (hc:c.length=8):(exC x pc c o A m).length=8:=by
 unfold exC;split
 ·rfl
 ·split
  ·simpa using hc
  ·split
   ·rw [QgE];exact hc
   ·exact hc
theorem Qh4 (x:List Nat) (o:Int) (A:Nat) (m:Int):Qau (exE x o A m)=true∧Qas (exE x o A m)=true∧(exE x o A m).length=4:=by
 unfold exE
 repeat' split
 all_goals exact ⟨rfl,rfl,rfl⟩
theorem QgM (x xs:List Nat) (n s r va:Nat) (o:Int) (A:Nat):(ldX x xs n s r va o A).length=x.length:=by
 unfold ldX;split
 ·rw [Qaz]
 ·rfl
theorem Qe0 (pc:Nat) (c:List Nat) (K:Int) (va:Nat) (hc:c.length=8):(trC pc c K va).length=8:=by
 unfold trC;split
 ·exact hc
 ·rfl
theorem QfM (x:List Nat) (pc:Nat) (c:List Nat) (xs:List Nat) (n:Nat) (hx:x.length=16) (hc:c.length=8) (gK:∀ y∈c,y<4294967296) (gQ:pc<4294967296) (hl:xs.length=n) (hY:∀ y∈xs,y<4294967296) (hn:n<4294967296) (jU:∀ y∈x,y<4294967296) (Q:Ex) (hQ:exS x pc c xs n=Q) :
  FN 135 [.agg (Qay x pc c),.s (.sl 0 0 n)] [⟨false,1,wsv xs⟩]
   (· =⟨.tup [.agg (Qay Q.x Q.pc Q.c),.s (.sl 1 0 n),.agg Q.e],[],[⟨true,1,wsv Q.m⟩]⟩):=by
 have hf:=Qpy x pc c xs n hx hc gK gQ hl hY hn;have hk:=QjI x pc c hx hc (Qab gK 0);have zJ:=QoN xs n (c.getD 0 0) (c.getD 6 0) pc hY;have hM:=Qc6 xs n (c.getD 0 0) (c.getD 6 0) pc 4 1 hY;have GO:(rsM xs n (c.getD 0 0) (c.getD 6 0) pc 4 1).length=n:=by rw [Qbl];exact hl
 have gL:=Qaa xs;have HZ:=Qaa (rsM xs n (c.getD 0 0) (c.getD 6 0) pc 4 1);have gR:=Qap (x) (pc) (c) hx hc;have jI:=Qal (x) (pc) (c);have qR:=Qag (x) (pc) (c);have qW:=Qai gR;have gpCC:=QaB (x) (pc) (c) hx;unfold exS at hQ
 by_cases hK:rsK xs n (c.getD 0 0) (c.getD 6 0) pc 4 1=0
 case neg =>
  rw [zP hK] at hQ;subst hQ;have fW:=Qeb x pc c (rsK xs n (c.getD 0 0) (c.getD 6 0) pc 4 1) pc hx hc gK;rw [Qbo] at fW;dsimp only [E0];have gC:=Qap (x) (c.getD 1 0) (trL pc c (rsK xs n (c.getD 0 0) (c.getD 6 0) pc 4 1) (pc)) hx rfl;have qA:=Qal (x) (c.getD 1 0) (trL pc c (rsK xs n (c.getD 0 0) (c.getD 6 0) pc 4 1) (pc));have gS:=Qag (x) (c.getD 1 0) (trL pc c (rsK xs n (c.getD 0 0) (c.getD 6 0) pc 4 1) (pc));have fF:=Qai gC;have gpC3:=QaB (x) (c.getD 1 0) (trL pc c (rsK xs n (c.getD 0 0) (c.getD 6 0) pc 4 1) (pc)) hx;generalize Qay (x) (c.getD 1 0) (trL pc c (rsK xs n (c.getD 0 0) (c.getD 6 0) pc 4 1) (pc))=C3 at *;generalize rsK xs n (c.getD 0 0) (c.getD 6 0) pc 4 1=K,ftW xs n (c.getD 0 0) (c.getD 6 0) pc=W,wsv (rsM xs n (c.getD 0 0) (c.getD 6 0) pc 4 1)=XM,wsv xs=XX,Qay (x) (pc) (c)=CC at *;refine fnW Tryz.func135 ?_;(repeat' ((conv=>whnf);first|exact zi2|(refine zj0 ?_;intro hb)|refine Qu7 ?_|refine zq4 ?_|refine zq1 ?_|refine Qz1 ?_|(refine QaD hf ?_)|(refine zpu fW ?_)|refine zse ?_|refine zbb ?_ ?_))
  all_goals exact Qe8
 rw [zN (fun h=>h hK)] at hQ;rw [hK] at hf;generalize hS:c.getD 0 0=S,hR:c.getD 6 0=R at *;generalize hW:ftW xs n S R pc=W,hXM:rsM xs n S R pc 4 1=M at *;clear hK hW hXM
 cases hd:dOk W with
 | false =>
  rw [zP hd] at hQ;subst hQ;have jO:=QD6 W zJ hd;unfold iv at jO;have fW:=Qeb x pc c 1 W hx hc gK;rw [Qbo] at fW;dsimp only [E0];have gC:=Qap (x) (c.getD 1 0) (trL pc c (1) (W)) hx rfl;have qA:=Qal (x) (c.getD 1 0) (trL pc c (1) (W));have gS:=Qag (x) (c.getD 1 0) (trL pc c (1) (W));have fF:=Qai gC;have gpC3:=QaB (x) (c.getD 1 0) (trL pc c (1) (W)) hx;generalize Qay (x) (c.getD 1 0) (trL pc c (1) (W))=C3,wsv M=XM,wsv xs=XX,Qay (x) (pc) (c)=CC at *;refine fnW Tryz.func135 ?_;(repeat' ((conv=>whnf);first|exact zi2|(refine zj0 ?_;intro hb)|refine Qu7 ?_|refine zq4 ?_|refine zq1 ?_|(refine QaD hf ?_)|(refine zpu jO ?_)|(refine zpu fW ?_)|refine zse ?_|refine zbb ?_ ?_));all_goals (conv=>whnf)
  all_goals exact Qe8
 | true =>
 rw [zN (by rw [hd];decide)] at hQ;have jO:=QC3 W zJ hd;obtain ⟨a1,a2,b1,b2,c1,c2,m1,m2,_⟩:=Qic W hd;rw [a1,b1,c1] at jO;have gH:=QpX (dOp W);generalize nA W=A,nB W=B,nC W=C,dM W=m,dOp W=o at *;clear hd a1 b1 c1
 by_cases hpv:57≤o∧S%2=0
 ·rw [zP hpv] at hQ
  subst hQ;rw [show Qf5 o=true from decide_eq_true (by omega)] at gH;rw [hpv.2] at hk;have fW:=Qeb x pc c 2 W hx hc gK;rw [Qbo] at fW;dsimp only [E0];unfold iv at jO;have gC:=Qap (x) (c.getD 1 0) (trL pc c (2) (W)) hx rfl;have qA:=Qal (x) (c.getD 1 0) (trL pc c (2) (W));have gS:=Qag (x) (c.getD 1 0) (trL pc c (2) (W));have fF:=Qai gC;have gpC3:=QaB (x) (c.getD 1 0) (trL pc c (2) (W)) hx;generalize Qay (x) (c.getD 1 0) (trL pc c (2) (W))=C3,wsv M=XM,wsv xs=XX,Qay (x) (pc) (c)=CC at *;refine fnW Tryz.func135 ?_;(repeat' ((conv=>whnf);first|exact zi2|(refine zj0 ?_;intro hb)|refine Qu7 ?_|refine zq4 ?_|refine zq1 ?_|(refine QaD hf ?_)|(refine zpu jO ?_)|(refine zpu gH ?_)|(refine zpu hk ?_)|(refine zpu fW ?_)|refine zse ?_|refine zbb ?_ ?_))
  all_goals exact Qe8
 rw [zN hpv] at hQ;obtain ⟨bp,ZA,jC⟩:∃ bp,Qf5 o=bp∧(bp=true→S%2=1):=⟨_,rfl,fun h=>by unfold Qf5 at h;simp only [decide_eq_true_eq] at h;omega⟩;rw [ZA] at gH;generalize S%2=S2 at *
 by_cases h32:32≤o∧o≤34
 ·rw [zP h32] at hQ
  subst hQ;have jN:=QsK x pc c M n o A B C m hx hc gK gQ GO hM hn jU a2 b2 h32;rw [hS,hR] at jN;dsimp only [E0];have UH:=Qaa (rsM M n S R (vaO x B m) (wd o) 2);obtain rfl:bp=false:=QnL;clear hk jC hpv;have gC:=Qap (ldX x M n S R (vaO x B m) o A) (trP pc c (rsK M n S R (vaO x B m) (wd o) 2)) (trC pc c (rsK M n S R (vaO x B m) (wd o) 2) (vaO x B m)) (by rw [QgM];exact hx) (Qe0 _ _ _ _ hc);have qA:=Qal (ldX x M n S R (vaO x B m) o A) (trP pc c (rsK M n S R (vaO x B m) (wd o) 2)) (trC pc c (rsK M n S R (vaO x B m) (wd o) 2) (vaO x B m));have gS:=Qag (ldX x M n S R (vaO x B m) o A) (trP pc c (rsK M n S R (vaO x B m) (wd o) 2)) (trC pc c (rsK M n S R (vaO x B m) (wd o) 2) (vaO x B m));have fF:=Qai gC;have gpC3:=QaB (ldX x M n S R (vaO x B m) o A) (trP pc c (rsK M n S R (vaO x B m) (wd o) 2)) (trC pc c (rsK M n S R (vaO x B m) (wd o) 2) (vaO x B m)) (by rw [QgM];exact hx);generalize Qay (ldX x M n S R (vaO x B m) o A) (trP pc c (rsK M n S R (vaO x B m) (wd o) 2)) (trC pc c (rsK M n S R (vaO x B m) (wd o) 2) (vaO x B m))=C3,wsv (rsM M n S R (vaO x B m) (wd o) 2)=XL,wsv M=XM,wsv xs=XX,Qay (x) (pc) (c)=CC at *;unfold iv at jO jN;have e:o=32∨o=33∨o=34:=by omega
  rcases e with rfl|rfl|rfl
  all_goals
   refine fnW Tryz.func135 ?_;exact QyH
 rw [zN h32] at hQ
 by_cases vH:35≤o∧o≤36
 ·rw [zP vH] at hQ
  subst hQ;have jN:=QpD x pc c M n o A B C m hx hc gK gQ GO hM hn jU a2 b2 vH;rw [hS,hR] at jN;dsimp only [E0];have UH:=Qaa (stX M n S R (vaO x B m) (x.getD A 0) o);obtain rfl:bp=false:=QnL;clear hk jC hpv;have gC:=Qap (x) (trP pc c (rsK M n S R (vaO x B m) (wd o) 3)) (trC pc c (rsK M n S R (vaO x B m) (wd o) 3) (vaO x B m)) hx (Qe0 _ _ _ _ hc);have qA:=Qal (x) (trP pc c (rsK M n S R (vaO x B m) (wd o) 3)) (trC pc c (rsK M n S R (vaO x B m) (wd o) 3) (vaO x B m));have gS:=Qag (x) (trP pc c (rsK M n S R (vaO x B m) (wd o) 3)) (trC pc c (rsK M n S R (vaO x B m) (wd o) 3) (vaO x B m));have fF:=Qai gC;have gpC3:=QaB (x) (trP pc c (rsK M n S R (vaO x B m) (wd o) 3)) (trC pc c (rsK M n S R (vaO x B m) (wd o) 3) (vaO x B m)) hx;generalize Qay (x) (trP pc c (rsK M n S R (vaO x B m) (wd o) 3)) (trC pc c (rsK M n S R (vaO x B m) (wd o) 3) (vaO x B m))=C3,wsv (stX M n S R (vaO x B m) (x.getD A 0) o)=XL,wsv M=XM,wsv xs=XX,Qay (x) (pc) (c)=CC at *;unfold iv at jO jN;have e:o=35∨o=36:=by omega
  rcases e with rfl|rfl
  all_goals
   refine fnW Tryz.func135 ?_;exact QyH
 rw [zN vH] at hQ;subst hQ;have jN:=Qyk x pc c o A B C m hx hc jU gK gQ a2 b2 c2 m2 m1 (by omega);obtain ⟨es,ek,el⟩:=Qh4 x o A m;have gC:=Qap (exX x pc c o A B C m) (exP x pc c o A B m) (exC x pc c o A m) (by rw [Qec];exact hx) (QhV x pc c o A m hc);have qA:=Qal (exX x pc c o A B C m) (exP x pc c o A B m) (exC x pc c o A m);have gS:=Qag (exX x pc c o A B C m) (exP x pc c o A B m) (exC x pc c o A m);have fF:=Qai gC;have gpC3:=QaB (exX x pc c o A B C m) (exP x pc c o A B m) (exC x pc c o A m) (by rw [Qec];exact hx);have n1:¬ o=32:=by omega
 have n2:¬ o=33:=by omega
 have n3:¬ o=34:=by omega
 have n4:¬ o=35:=by omega
 have n5:¬ o=36:=by omega
 dsimp only;generalize Qay (exX x pc c o A B C m) (exP x pc c o A B m) (exC x pc c o A m)=C3,wsv M=XM,wsv xs=XX,exE x o A m=EE at *;have WF:∀ c:List SV,c.length=4→QaC c 0 EE=EE:=fun c hc=>Qch (hc.trans el.symm)
 generalize Qay (x) (pc) (c)=CC at *;unfold iv at jO jN
 cases bp with
 | false =>
  clear hk jC hpv;refine fnW Tryz.func135 ?_;(repeat' ((conv=>whnf);first|exact zi2|(refine zj0 ?_;intro hb)|refine QH9 ?_|refine QEr ?_|refine QEf ?_|(refine QaD hf ?_)|(refine zpu jO ?_)|(refine zpu gH ?_)|(refine zpu jN ?_)|refine zse ?_|refine zbb ?_ ?_));all_goals (conv=>whnf)
  all_goals exact Qe8
 | true =>
  obtain rfl:S2=1:=jC rfl;refine fnW Tryz.func135 ?_;(repeat' ((conv=>whnf);first|exact zi2|(refine zj0 ?_;intro hb)|refine QH9 ?_|refine QEr ?_|refine QEf ?_|(refine QaD hf ?_)|(refine zpu jO ?_)|(refine zpu gH ?_)|(refine zpu hk ?_)|(refine zpu jN ?_)|refine zse ?_|refine zbb ?_ ?_))
  all_goals exact Qe8
end Go.Proofs.YtflelebfmdggkaaGreat
