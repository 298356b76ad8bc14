import Derived.Test.YtflaceijiphfdaaGreatP20
import Derived.Test.YtflaceijiphfdaaGreatP25
set_option linter.unusedSimpArgs false
set_option linter.unusedVariables false
set_option maxHeartbeats 0
set_option maxRecDepth 100000
namespace Go.Proofs.YtflaceijiphfdaaGreat
open Go Go.RowKit
theorem Qeu (M:Mc) (hM:M.ok):FN 128 [.agg (M.C 0)] [⟨false,1,wsv M.m⟩] (. =⟨.a (.s (.bool (!Qch M))),[],[]⟩):=by
 have hm:=QoF M hM;have hi:=QlG M hM;have gK:=Qaa M.m;obtain ⟨B,hB⟩:∃ B,(!Qch M)=B:=⟨_,rfl⟩;rw [hB];unfold Qch at hB;generalize Qb0 M=b1,Qm5 M=b2 at *;obtain ⟨hx,hc,hY,gA,_,gB,_,gE,gD,gG⟩:=hM;obtain ⟨_,_,_,m,_,_,_,_,d,n⟩:=M;dsimp only at *;cases QaO hx;cases zC8 hc;cases d;cases n;dsimp only [Mc.C,Mc.D,Dk.C,Nk.C,Dk.ok,Nk.ok] at *;generalize m.length=nn,wsv m=XX at *;have qN:=gG.2.2.2.1;clear hY gA gE gD gB gG;refine fnW Tryz.func128 ?_;exact QDe
def QzV (M:Mc):Mc:= { M with pc:=Qdm M,c:=Qdl M,wt:=false }
theorem QAv:∀ E:Nat,E<32->∀ j:Nat,j<5->E &&& 2^j=E / 2^j%2*2^j:=by decide
def QzW (E j:Nat) (MC Z XX:List SV):St :=
 ⟨[(1,.a (.s (.ptr 1 0))),(2,.a (.s (.ptr 2 0))),(3,.a (.s (.u E))),(15,.a (.s (.i j)))],[(0,some ⟨false,1,XX⟩),(1,some ⟨true,1,MC⟩),(2,some ⟨true,1,Z⟩)],[0]⟩
theorem Qer (M:Mc) (hM:M.ok):FN 129 [.agg (M.C 0)] [⟨false,1,wsv M.m⟩] (. =⟨.a (.agg ((QzV M).C 0)),[],[]⟩):=by
 have he:=Qgd { M with wt:=false } (by obtain ⟨a1,a2,a3,a4,a5,a6,a7,a8,a9,a10⟩:=hM;exact ⟨a1,a2,a3,a4,a5,a6,a7,a8,a9,a10⟩);change Fn _ _ _ _ (. =⟨.a (.s (.u (QiA M:Nat))),[],[]⟩) at he;have hE:=Qo4 M;have gK:=Qaa M.m;have b2:=Qhe (M.c.getD 0 0) (Qab hM.cr 0);unfold QzV Qdm Qdl QcQ;dsimp only [Mc.C];generalize QiA M=E at *;obtain ⟨hx,hc,hY,gA,_,gB,gH,gE,gD,gG⟩:=hM;obtain ⟨_,pc,c,m,ks,ta,td,tf,d,n,bt,bg,ct,wt,ht⟩:=M;dsimp only at *;obtain ⟨x0,x1,x2,x3,x4,x5,x6,x7,x8,x9,x10,x11,x12,x13,x14,x15,rfl⟩:=Qgt hx;obtain ⟨c0,c1,c2,c3,c4,c5,c6,c7,rfl⟩:=Qfo hc;obtain ⟨d0,d1,d2,d3,d4,d5,d6,d7⟩:=d;obtain ⟨n0,n1,n2,n3,n4,n5⟩:=n;dsimp only [Mc.C,Mc.D,Dk.C,Nk.C,Dk.ok,Nk.ok] at *;generalize m.length=nn,wsv m=XX at *;simp only [List.getD_cons_zero,List.getD_cons_succ] at b2 |-;have h2:c0 / 2%2<2:=Nat.mod_lt _ (by decide);generalize c0 / 2%2=s2 at *;clear hY gE gD gB gG gH;simp only [Qai,zca,zna] at *
 by_cases h1:s2=1
 case neg =>
  obtain rfl:s2=0:=by omega
  replace b2:bits .and .u32 (c0:Int) 2=0:=b2;rw [zdf (by omega),zN (by decide),zN (by decide)];refine fnW Tryz.func129 ?_;(repeat' ((conv=>whnf);first|exact zi2|refine zj0 fun hb=>?_|refine zq0 ?_|(with_reducible refine zv b2 ?_)|refine zse ?_|refine zbb ?_ ?_))
  all_goals exact Qeg
 subst h1;replace b2:bits .and .u32 (c0:Int) 2=2:=b2;refine fnW Tryz.func129 ?_;(conv=>whnf);(repeat' ((first|exact zi2|refine zj0 fun hb=>?_|(with_reducible refine zv b2 ?_)|(refine QaD he ?_)|refine zse ?_|refine zbb ?_ ?_)<;>conv=>whnf))
 all_goals first|skip
 clear he b2;obtain ⟨MC,ZB⟩:∃ MC,([.u x0,.u x1,.u x2,.u x3,.u x4,.u x5,.u x6,.u x7,.u x8,.u x9,.u x10,.u x11,.u x12,.u x13,.u x14,.u x15,.u pc,.u c0,.u c1,.u c2,.u c3,.u c4,.u c5,.u c6,.u c7,.sl 0 0 nn,.str ks,.bool ta,.u td,.bool tf,.u d0,.u d1,.u d2,.i d3,.i d4,.u d5,.u d6,.str d7,.u n0,.u n1,.bool n2,.u n3,.bool n4,.u n5,.u bt,.u bg,.w ct,.bool false,.bool ht]:List SV)=MC:=⟨_,rfl⟩;obtain ⟨Z,hZ⟩:∃ Z,([.u 0,.u 0,.u 0,.u 0,.u 0,.u 0,.u 0,.u 0,.u 0,.u 0,.u 0,.u 0,.u 0,.u 0,.u 0,.u 0,.u 0,.u 0,.u 0,.u 0,.u 0,.u 0,.u 0,.u 0,.u 0,.nilsl,.str ⟨#[]⟩,.bool false,.u 0,.bool false,.u 0,.u 0,.u 0,.i 0,.i 0,.u 0,.u 0,.str ⟨#[]⟩,.u 0,.u 0,.bool false,.u 0,.bool false,.u 0,.u 0,.u 0,.w 0,.bool false,.bool false]:List SV)=Z:=⟨_,rfl⟩;refine Lp.inv (fun mm σ=>∃ j:Nat,mm+j=5/\(∀ i,i<j->E / 2^i%2=0)/\σ=QzW E j MC Z XX) ?_ ?_
 .refine ⟨5,QzW E 0 MC Z XX,?_,0,by omega,fun i h=>by omega,rfl⟩
  rw [<- ZB,<- hZ];unfold QzW
  (exact zwL [(0,some 0),(1,some _),(2,some _)])
 rintro mm σ ⟨j,yG,fC,rfl⟩;rw [<- ZB,<- hZ];clear ZB hZ;unfold QzW
 by_cases hj:j<5
 case neg =>
  obtain rfl:j=5:=by omega
  obtain rfl:E=0:=QAF E hE fC;rw [zdf (by omega),zN (by decide),zN (by decide)];clear fC;exact QD0
 have q2:IntKind.i64.wrap ((j:Int)+1)=((j+1:Nat):Int):=QbF;have q3:IntKind.i64.wrap (16+(j:Int))=16+(j:Int):=Qb3 (by omega) (by omega);have hp:2^j<4294967296:=Nat.lt_of_le_of_lt (Nat.pow_le_pow_right (by decide) (show j<=5 by omega)) (by decide);have hs:(1:Int)*2^min (((j:Nat):Int)).toNat IntKind.u32.bits%4294967296=((2^j:Nat):Int):=QyU j (by omega);have ha:bits .and .u32 (E:Int) ((2^j:Nat):Int)=((E / 2^j%2*2^j:Nat):Int):=by rw [Qcz E (2^j) (by omega) hp,QAv E hE j hj]
 have hp0:0<2^j:=Nat.two_pow_pos j;have jU:E / 2^j%2<2:=Nat.mod_lt _ (by decide)
 by_cases wQ:E / 2^j%2=1
 .have qF:=Qqi E j hj fC wQ
  have HV:E≠0:=by
   rintro rfl;rw [Nat.zero_div] at wQ;omega
  rw [zdt ⟨rfl,HV⟩,zP rfl,zP rfl,qF];have fK:=Qef [x0,x1,x2,x3,x4,x5,x6,x7,x8,x9,x10,x11,x12,x13,x14,x15] pc [c0,c1,c2,c3,c4,c5,c6,c7] (16+(j:Int)) 0 rfl rfl gA;rw [Qbk] at fK;change Fn _ _ _ _ (. =⟨.a (.agg (Qax _ c1 _)),[],[]⟩) at fK;rw [wQ,Nat.one_mul] at ha;unfold trL at *;simp only [Qai,List.getD_cons_zero,List.getD_cons_succ] at fK |-;generalize 2^j=Pj at *;clear fC qF hE wQ jU;(repeat' ((conv=>whnf);first|exact zi2|refine zj0 fun hb=>?_|refine zq0 ?_|refine zq3 ?_|((with_reducible apply Vl.mk (α:=Int)); . first|with_reducible exact q2|with_reducible exact q3|with_reducible exact ha|exact hs)|(refine zpu fK ?_)|refine zse ?_|refine zbb ?_ ?_))
  all_goals exact QDH
 .have yD:E / 2^j%2=0:=by omega
  have vJ:∀ i,i<j+1->E / 2^i%2=0:=fun i hi=>by
   by_cases e:i=j
   .subst e;exact yD
   .exact fC i (by omega)
  rw [yD,Nat.zero_mul] at ha;generalize 2^j=Pj at *;(conv=>whnf);(repeat' ((first|exact zi2|refine zj0 fun hb=>?_|((with_reducible apply Vl.mk (α:=Int)); . first|with_reducible exact q2|with_reducible exact ha|exact hs)|refine zse ?_|refine zbb ?_ ?_)<;>conv=>whnf))
  all_goals first
   | (exfalso;omega)|(exfalso;simp at hb;done)|(exfalso;simp at hb;omega)
   | (refine ⟨mm-1,QzW E (j+1) _ _ XX,by omega,?_,j+1,by omega,vJ,rfl⟩;unfold QzW;(exact zwL [(0,some 0),(1,some 1),(2,some 2)]))
end Go.Proofs.YtflaceijiphfdaaGreat
