import Derived.Test.YtflaceijiphfdaaGreatP53
import Derived.Test.YtflaceijiphfdaaGreatP11
import Derived.Test.YtflaceijiphfdaaGreatP47
import Derived.Test.YtflaceijiphfdaaGreatP48
import Derived.Test.YtflaceijiphfdaaGreatP50
set_option linter.unusedSimpArgs false
set_option linter.unusedVariables false
set_option maxHeartbeats 0
set_option maxRecDepth 100000
namespace Go.Proofs.YtflaceijiphfdaaGreat
open Go Go.RowKit
theorem Ql6 {E:Eg} (hC:Coh E) (hm:Qb0 E.M=true):Qz5 E=true:=by
 unfold Qz5;rw [hm,hC.T,@decide_eq_true _ (Classical.propDecidable _) hC.B];rfl
theorem Qms {E:Eg} (hE:E.ok) (hC:Coh E) (hm:Qb0 E.M=true) (k:Nat) (hk:k<=4000):Adv (QfS E.M k) 0 E.z (Qej E k):=by
 have hz:E.z.ok:=⟨hE.M,hE.T,hE.tl,hE.B,hE.bl,(by unfold QbA;exact fun l h=>by cases h),Nat.zero_le _,by show (0:Nat)<_;decide⟩
 have qN:E.M.ct<=1152921504606846976:=by
  have h:=hm;unfold Qb0 at h;exact (of_decide_eq_true h).2.2.2.2.2.2.2.2.2.2.2.1
 exact QhG (QfS E.M k) (QfS E.M k) 0 E.z hz ⟨hC.n,hC.T,hC.B⟩ hm (Nat.zero_le _) (by omega) (by show E.M.ct+(QfS E.M k-0)<=_;unfold QfS;omega) (by show 0+(QfS E.M k-0)<=_;unfold QfS;omega)
theorem Qkf:∀ (k lim n:Nat) (E:Eg),lim-n<=k->lim<=(Qj7 k lim n E).2\/Qi4 (Qj7 k lim n E).1.M=true
 | 0,lim,n,E,h=> .inl (by show lim<=n;omega)
 | k+1,lim,n,E,h=>by
  unfold Qj7
  by_cases hc:n<lim/\Qi4 E.M=false
  .rw [zP hc]
   split
   .exact Qkf k lim (n+1) _ (by omega)
   .exact Qkf k lim (n+(QeT (lim-n) E).2) _ (by omega)
  .rw [zN hc]
   by_cases h1:n<lim
   .exact .inr (by cases hq:Qi4 E.M<;>simp_all)
   .exact .inl (by show lim<=n;omega)
theorem Qmr:∀ {s k:Nat} {M M':Mc} {l:List (List SV)} (os:List (List SV)) (n:Nat),Qke s M l M'->s<=k->(s=k\/Qch M'=true\/Qe3 M'=true)->stR k M os n=(M',os++l,n+s)
 | 0,0,_,_,_,os,n,⟨h1,h2⟩,_,_=>by subst h1 h2;rw [List.append_nil];rfl
 | 0,k+1,_,_,_,os,n,⟨h1,h2⟩,_,h=>by
  subst h1 h2;rw [List.append_nil];unfold stR;rcases h with h|h|h
  .omega
  .rw [zP h];rfl
  .split
   .rfl
   .first|rfl|(rw [zP h];rfl)
 | s+1,0,_,_,_,os,n,_,h,_=>by omega
 | s+1,k+1,M,M',l,os,n,⟨M1,o,l',h1,h2,h3,h4,h5⟩,hk,h=>by
  unfold stR;rw [h1,h2,zN (by decide),zN (by decide),h3,Qmr (k:=k) _ _ h5 (by omega) (by rcases h with h|h;exact .inl (by omega);exact .inr h),h4,List.append_assoc,Nat.add_assoc,Nat.add_comm 1 s]
theorem Qy3 {E:Eg} (hE:E.ok) (hC:Coh E) (hm:Qb0 E.M=true) (k:Nat) (hk:k<=119):stR k E.M [] 0=((Qej E k).1.M,(Qej E k).1.o,(Qej E k).2):=by
 have hD:=Qms hE hC hm k (by omega);obtain ⟨l,ho,hr⟩:=hD.run;rw [show E.z.o= [] from rfl,zna] at ho;rw [Nat.sub_zero] at hr;change Qke _ E.M l _ at hr;have zE:=hD.li;obtain ⟨_,_,GQ⟩:=QdJ (M:=E.M) hE.M hm hr;have hx:=Qkf (QfS E.M k) (QfS E.M k) 0 E.z (by omega);change QfS E.M k<=(Qej E k).2\/Qi4 (Qej E k).1.M=true at hx;have hL:QfS E.M k<=k:=by unfold QfS;omega
 rw [Qmr (k:=k) [] 0 hr (by omega) ?_,zna,Nat.zero_add,ho];rcases hx with hx|hx
 .by_cases h:(Qej E k).2=k
  .exact .inl h
  .right;left
   have qN:1152921504606846976<=(Qej E k).1.M.ct:=by rw [GQ];unfold QfS at hx;omega
   unfold Qch;rw [zdt qN];simp
 .right
  unfold Qi4 at hx;unfold Qch;cases h1:(Qej E k).1.M.ht<;>cases h2:Qm5 (Qej E k).1.M<;>cases h3:Qe3 (Qej E k).1.M<;>simp_all
theorem Qum (M:Mc) (hM:M.ok) (hn:mpg M.m.length*32=M.m.length) (hm:Qb0 M=true) (k:Nat) (hk:k<=119):∃ (M':Mc) (os:List (List SV)) (n':Nat) (T:List Te) (B:List Bk),M'.ok/\QbA os /\
  FN 12 [.agg (M.C 0)] [⟨false,1,wsv M.m⟩] (. =⟨.a (.agg ((⟨M,[],[],[],0,false⟩:Eg).V 1 2 3)),[],[⟨true,1,wsv M.m⟩,⟨true,4,[]⟩,⟨true,3,[]⟩]⟩) /\
  FN 11 [.agg ((⟨M,[],[],[],0,false⟩:Eg).V 0 1 2),.s (.w k)] [⟨false,1,wsv M.m⟩,⟨false,4,[]⟩,⟨false,3,[]⟩] (. =⟨.tup [.agg ((⟨M',T,B,os,0,false⟩:Eg).V 3 4 5),.s (.sl 6 0 os.length),.s (.w (n':Nat))],[],[⟨true,1,wsv M'.m⟩,⟨true,4,tes T⟩,⟨true,3,bks B⟩,⟨true,4,OLs os⟩]⟩) /\
  FN 13 [.agg (M.C 0),.s (.w k)] [⟨false,1,wsv M.m⟩] (. =⟨.tup [.agg (M'.C 1),.s (.sl 2 0 os.length),.s (.w (n':Nat))],[],[⟨true,1,wsv M'.m⟩,⟨true,4,OLs os⟩]⟩) /\
  FN 16 [.agg ((⟨M',T,B,os,0,false⟩:Eg).V 0 1 2)] [⟨false,1,wsv M'.m⟩,⟨false,4,tes T⟩,⟨false,3,bks B⟩] (. =⟨.a (.s (.bool true)),[],[]⟩) /\
  FN 14 [.agg (M'.C 0),.agg (M'.C 1)] [⟨false,1,wsv M'.m⟩,⟨false,1,wsv M'.m⟩] (. =⟨.a (.s (.bool true)),[],[]⟩) /\
  FN 15 [.s (.sl 0 0 os.length),.s (.sl 1 0 os.length)] [⟨false,4,OLs os⟩,⟨false,4,OLs os⟩] (. =⟨.a (.s (.bool true)),[],[]⟩):=by
 have h0:(⟨M,[],[],[],0,false⟩:Eg).ok:=⟨hM,(fun t h=>by cases h),Nat.zero_le _,(fun b h=>by cases h),Nat.zero_le _,(show QbA [] from fun l h=>by cases h),Nat.zero_le _,by show (0:Nat)<_;decide⟩;have c0:Coh (⟨M,[],[],[],0,false⟩:Eg):=⟨hn,rfl,⟨Nat.zero_le _,fun i b h=>by cases i<;>cases h⟩⟩;have e2:=Qy3 h0 c0 hm k hk;change stR k M [] 0=_ at e2;have D2:=Qms h0 c0 hm k (by omega);have s2:=Qup QB8 QwN _ h0 (Ql6 c0 hm) c0 hm k (by omega);have st:=Quq M hM k (by omega);rw [e2] at st;obtain ⟨l,ho,hr⟩:=D2.run;rw [show (⟨M,[],[],[],0,false⟩:Eg).z.o= [] from rfl,zna] at ho;have hK:∀ x∈(Qej (⟨M,[],[],[],0,false⟩:Eg) k).1.o,oK x:=by rw [ho];exact QvC hr
 have gF:(Qej (⟨M,[],[],[],0,false⟩:Eg) k).1.o.length<=1000000:=by have:=D2.ok.ol;omega
 have r1:=D2.ok;have m1:=Qo3 _ r1;rw [Ql6 D2.coh D2.may] at m1;have sm:=Qt7 _ r1.M;have so:=Qub (Qej (⟨M,[],[],[],0,false⟩:Eg) k).1.o _ rfl gF hK;exact ⟨(Qej (⟨M,[],[],[],0,false⟩:Eg) k).1.M,(Qej (⟨M,[],[],[],0,false⟩:Eg) k).1.o,(Qej (⟨M,[],[],[],0,false⟩:Eg) k).2,(Qej (⟨M,[],[],[],0,false⟩:Eg) k).1.T,(Qej (⟨M,[],[],[],0,false⟩:Eg) k).1.B,r1.M,r1.o,QxG M hM,s2,st,m1,sm,so⟩
def hxc (x:Nat):UInt8:=if x<10 then UInt8.ofNat (48+x) else UInt8.ofNat (87+x)
def hxF (w:Nat) (k:Nat):UInt8:=hxc (w / 2^(28-4*k)%16)
theorem QBx:∀ x:Nat,x<16->(48<=(hxc x).toNat/\(hxc x).toNat<=57)\/(97<=(hxc x).toNat/\(hxc x).toNat<=102):=by decide
theorem QBw (w k:Nat):hxB (hxF w k):=QBx _ (by omega)
def tb16:ByteArray:=⟨#[48,49,50,51,52,53,54,55,56,57,97,98,99,100,101,102]⟩
theorem Qdt:∀ x:Nat,x<16->tb16[x]?=some (hxc x):=fun x h=>by
 match x,h with
 | 0,_=>rfl
 | 1,_=>rfl
 | 2,_=>rfl
 | 3,_=>rfl
 | 4,_=>rfl
 | 5,_=>rfl
 | 6,_=>rfl
 | 7,_=>rfl
 | 8,_=>rfl
 | 9,_=>rfl
 | 10,_=>rfl
 | 11,_=>rfl
 | 12,_=>rfl
 | 13,_=>rfl
 | 14,_=>rfl
 | 15,_=>rfl
 | n+16,h=>exact absurd h (by omega)
theorem Qlf (l:List UInt8):strOfNums (l.map fun c=>(c.toNat:Int))=⟨⟨l⟩⟩:=by
 unfold strOfNums;simp
 exact (List.map_congr_left (g:=id) fun c _=>by simp).trans (List.map_id l)
theorem QBv (w:Nat) (hw:ZU w):FN 7 [.s (.u w)] [] (. =⟨.a (.s (.str ⟨⟨hxL (hxF w) []⟩⟩)),[],[]⟩):=by
 have hS:tb16.size=16:=rfl;have hT:(⟨#[48,49,50,51,52,53,54,55,56,57,97,98,99,100,101,102]⟩:ByteArray)=tb16:=rfl;have hr:=Qlf (hxL (hxF w) []);simp only [List.map_cons,List.map_nil] at hr;have s0:(w:Int) / 2^min (Int.toNat 28) IntKind.u32.bits=((w / 2^28:Nat):Int):=by rw [show (2:Int)^min (Int.toNat 28) IntKind.u32.bits=((2^28:Nat):Int) from rfl];exact (Int.natCast_ediv w (2^28)).symm
 have t0:bits .and .u32 ((w / 2^28:Nat):Int) 15=((w / 2^28%16:Nat):Int):=QaS (w / 2^28) 4 (Nat.lt_of_le_of_lt (Nat.div_le_self _ _) hw) (by omega);have g0:tb16[w / 2^28%16]?=some (hxF w 0):=Qdt _ (by omega);have s1:(w:Int) / 2^min (Int.toNat 24) IntKind.u32.bits=((w / 2^24:Nat):Int):=by rw [show (2:Int)^min (Int.toNat 24) IntKind.u32.bits=((2^24:Nat):Int) from rfl];exact (Int.natCast_ediv w (2^24)).symm
 have t1:bits .and .u32 ((w / 2^24:Nat):Int) 15=((w / 2^24%16:Nat):Int):=QaS (w / 2^24) 4 (Nat.lt_of_le_of_lt (Nat.div_le_self _ _) hw) (by omega);have g1:tb16[w / 2^24%16]?=some (hxF w 1):=Qdt _ (by omega);have s2:(w:Int) / 2^min (Int.toNat 20) IntKind.u32.bits=((w / 2^20:Nat):Int):=by rw [show (2:Int)^min (Int.toNat 20) IntKind.u32.bits=((2^20:Nat):Int) from rfl];exact (Int.natCast_ediv w (2^20)).symm
 have t2:bits .and .u32 ((w / 2^20:Nat):Int) 15=((w / 2^20%16:Nat):Int):=QaS (w / 2^20) 4 (Nat.lt_of_le_of_lt (Nat.div_le_self _ _) hw) (by omega);have g2:tb16[w / 2^20%16]?=some (hxF w 2):=Qdt _ (by omega);have s3:(w:Int) / 2^min (Int.toNat 16) IntKind.u32.bits=((w / 2^16:Nat):Int):=by rw [show (2:Int)^min (Int.toNat 16) IntKind.u32.bits=((2^16:Nat):Int) from rfl];exact (Int.natCast_ediv w (2^16)).symm
 have t3:bits .and .u32 ((w / 2^16:Nat):Int) 15=((w / 2^16%16:Nat):Int):=QaS (w / 2^16) 4 (Nat.lt_of_le_of_lt (Nat.div_le_self _ _) hw) (by omega);have g3:tb16[w / 2^16%16]?=some (hxF w 3):=Qdt _ (by omega);have s4:(w:Int) / 2^min (Int.toNat 12) IntKind.u32.bits=((w / 2^12:Nat):Int):=by rw [show (2:Int)^min (Int.toNat 12) IntKind.u32.bits=((2^12:Nat):Int) from rfl];exact (Int.natCast_ediv w (2^12)).symm
 have t4:bits .and .u32 ((w / 2^12:Nat):Int) 15=((w / 2^12%16:Nat):Int):=QaS (w / 2^12) 4 (Nat.lt_of_le_of_lt (Nat.div_le_self _ _) hw) (by omega);have g4:tb16[w / 2^12%16]?=some (hxF w 4):=Qdt _ (by omega);have s5:(w:Int) / 2^min (Int.toNat 8) IntKind.u32.bits=((w / 2^8:Nat):Int):=by rw [show (2:Int)^min (Int.toNat 8) IntKind.u32.bits=((2^8:Nat):Int) from rfl];exact (Int.natCast_ediv w (2^8)).symm
 have t5:bits .and .u32 ((w / 2^8:Nat):Int) 15=((w / 2^8%16:Nat):Int):=QaS (w / 2^8) 4 (Nat.lt_of_le_of_lt (Nat.div_le_self _ _) hw) (by omega);have g5:tb16[w / 2^8%16]?=some (hxF w 5):=Qdt _ (by omega);have s6:(w:Int) / 2^min (Int.toNat 4) IntKind.u32.bits=((w / 2^4:Nat):Int):=by rw [show (2:Int)^min (Int.toNat 4) IntKind.u32.bits=((2^4:Nat):Int) from rfl];exact (Int.natCast_ediv w (2^4)).symm
 have t6:bits .and .u32 ((w / 2^4:Nat):Int) 15=((w / 2^4%16:Nat):Int):=QaS (w / 2^4) 4 (Nat.lt_of_le_of_lt (Nat.div_le_self _ _) hw) (by omega);have g6:tb16[w / 2^4%16]?=some (hxF w 6):=Qdt _ (by omega);have s7:(w:Int) / 2^min (Int.toNat 0) IntKind.u32.bits=((w / 2^0:Nat):Int):=by rw [show (2:Int)^min (Int.toNat 0) IntKind.u32.bits=((2^0:Nat):Int) from rfl];exact (Int.natCast_ediv w (2^0)).symm
 have t7:bits .and .u32 ((w / 2^0:Nat):Int) 15=((w / 2^0%16:Nat):Int):=QaS (w / 2^0) 4 (Nat.lt_of_le_of_lt (Nat.div_le_self _ _) hw) (by omega);have g7:tb16[w / 2^0%16]?=some (hxF w 7):=Qdt _ (by omega);generalize hxF w 0=c0,hxF w 1=c1,hxF w 2=c2,hxF w 3=c3,hxF w 4=c4,hxF w 5=c5,hxF w 6=c6,hxF w 7=c7 at *;refine fnW Tryz.func7 ?_;(conv=>whnf);(repeat' ((first|exact zi2|refine zj0 fun hb=>?_|((with_reducible apply Vl.mk (α:=Int)); . first|exact s0|exact s1|exact s2|exact s3|exact s4|exact s5|exact s6|exact s7|exact t0|exact t1|exact t2|exact t3|exact t4|exact t5|exact t6|exact t7)|((with_reducible apply Vl.mk (α:=ByteArray)); . exact hr)|refine Qn4 ?_|((with_reducible apply Ge.mk (α:=UInt8)); . first|exact g0|exact g1|exact g2|exact g3|exact g4|exact g5|exact g6|exact g7)|refine QGI ?_|(refine Lp.unroll 9 ?_)|refine zse ?_|refine zbb ?_ ?_)<;>conv=>whnf))
 all_goals first|(exfalso;omega)|(exfalso;simp at hb;done)|(rw [hr];(exact zf_))|(exact zf_)
theorem sAp (l m:List UInt8):(⟨⟨l⟩⟩++⟨⟨m⟩⟩:ByteArray)=⟨⟨l++m⟩⟩:=by
 apply ByteArray.ext;rw [ByteArray.data_append];exact List.append_toArray _ _
theorem sSz (l:List UInt8):(⟨⟨l⟩⟩:ByteArray).size=l.length:=rfl
theorem QCo (d:Nat->UInt8) (a b:Nat):((((([108,105,32,114,49,44,32,48,120]++hxL d [])++ [10,108,105,32,114,50,44,32])++dcN (4*a))++ [10,115,119,32,114,49,44,32,48,40,114,50,41,10,110,111,112,10,110,111,112,10,97,100,100,105,32,114,51,44,32,114,51,44,32,49,10,115,119,32,114,49,44,32])++dcZ b)++ [40,114,50,41,10,110,111,112,10,97,100,100,105,32,114,51,44,32,114,51,44,32,49,10,106,97,108,32,114,48,44,32,45,55,10]=Qn2 d a b:=by
 unfold Qn2 ln1 ln6;simp only [List.append_assoc];rfl
theorem slf_fn (n at' wh bu:Int) (hbu:0<=bu):FN 3 [.s (.i n),.s (.i at'),.s (.i wh),.s (.w bu)] [] (. =⟨.a (.s (.bool true)),[],[]⟩):=by
 have ca:=QmH;have ci:=Qxr n;obtain ⟨ce,hw,io,ia,ib,ic,im,hi⟩:=QwL n;rw [hi] at ci ce;rw [hi] at hw;generalize QEm (iv io ia ib ic im)=w at *;unfold iv at ci ce;have ch:=QBv w hw;have hd:∀ k,k<8->hxB (hxF w k):=fun k _=>QBw w k
 obtain ⟨a,hA⟩:∃ a:Nat,at'%30=(a:Int):=⟨(at'%30).toNat,by omega⟩;obtain ⟨b,hB⟩:∃ b:Nat,wh%8=(b:Int):=⟨(wh%8).toNat,by omega⟩;have ha:a<30:=by omega
 have FL:b<8:=by omega
 have r1:=QgH at' 30 (by decide) (by decide);rw [hA] at r1;have r2:=QgH wh 8 (by decide) (by decide);rw [hB] at r2;have d1:=QwD a ha;have d2:=QwE b FL;have u1:IntKind.i64.wrap (4*(a:Int))=((4*a:Nat):Int):=QbF;have u2:IntKind.i64.wrap (4*(b:Int))=4*(b:Int):=QfD;have u3:IntKind.i64.wrap (4*(b:Int)-16)=4*(b:Int)-16:=QfD;obtain ⟨k,hk⟩:∃ k:Nat,bu%120=(k:Int):=⟨(bu%120).toNat,by omega⟩;have hk9:k<=119:=by omega
 have tm1:Int.tmod bu 120=(k:Int):=by rw [Int.tmod_eq_emod_of_nonneg hbu,hk]
 obtain ⟨ws,yR,wG,cas⟩:=QAA (hxF w) hd a b ha FL;have cm:=QxH ws 12 yR (by omega);obtain ⟨Mq,hMq⟩:∃ M,QtE ws=M:=⟨_,rfl⟩;have hM:=QxI ws (by omega) wG;have UB:=QtF ws (by omega);have gH:(QtE ws).m.length=64:=QhS ws (by omega);rw [hMq] at cm hM UB gH;clear hMq;obtain ⟨Ma,os,_,T1,B1,hMa,vO,c1,c2,c3,c4,c5,c6⟩:=Qum Mq hM (by rw [gH];rfl) UB k hk9;have wI:=Qqf a ha;have hz6:=Qqg b FL;have sz1:(dcN (4*a)).length<=10:=by have:=wI.1;unfold ln1 at this;rw [zla] at this;omega
 have sz6:(dcZ b).length<=14:=by have:=hz6.1;unfold ln6 at this;rw [zla,zla] at this;omega
 clear wI hz6;have x1:(⟨⟨[108,105,32,114,49,44,32,48,120]⟩⟩++⟨⟨hxL (hxF w) []⟩⟩:ByteArray)=⟨⟨[108,105,32,114,49,44,32,48,120]++hxL (hxF w) []⟩⟩:=sAp _ _;have x2:(⟨⟨[108,105,32,114,49,44,32,48,120]++hxL (hxF w) []⟩⟩++⟨⟨[10,108,105,32,114,50,44,32]⟩⟩:ByteArray)=⟨⟨([108,105,32,114,49,44,32,48,120]++hxL (hxF w) [])++ [10,108,105,32,114,50,44,32]⟩⟩:=sAp _ _;have x3:(⟨⟨([108,105,32,114,49,44,32,48,120]++hxL (hxF w) [])++ [10,108,105,32,114,50,44,32]⟩⟩++⟨⟨dcN (4*a)⟩⟩:ByteArray)=⟨⟨(([108,105,32,114,49,44,32,48,120]++hxL (hxF w) [])++ [10,108,105,32,114,50,44,32])++dcN (4*a)⟩⟩:=sAp _ _;have x4:(⟨⟨(([108,105,32,114,49,44,32,48,120]++hxL (hxF w) [])++ [10,108,105,32,114,50,44,32])++dcN (4*a)⟩⟩++⟨⟨[10,115,119,32,114,49,44,32,48,40,114,50,41,10,110,111,112,10,110,111,112,10,97,100,100,105,32,114,51,44,32,114,51,44,32,49,10,115,119,32,114,49,44,32]⟩⟩:ByteArray)=⟨⟨((([108,105,32,114,49,44,32,48,120]++hxL (hxF w) [])++ [10,108,105,32,114,50,44,32])++dcN (4*a))++ [10,115,119,32,114,49,44,32,48,40,114,50,41,10,110,111,112,10,110,111,112,10,97,100,100,105,32,114,51,44,32,114,51,44,32,49,10,115,119,32,114,49,44,32]⟩⟩:=sAp _ _;have x5:(⟨⟨((([108,105,32,114,49,44,32,48,120]++hxL (hxF w) [])++ [10,108,105,32,114,50,44,32])++dcN (4*a))++ [10,115,119,32,114,49,44,32,48,40,114,50,41,10,110,111,112,10,110,111,112,10,97,100,100,105,32,114,51,44,32,114,51,44,32,49,10,115,119,32,114,49,44,32]⟩⟩++⟨⟨dcZ b⟩⟩:ByteArray)=⟨⟨(((([108,105,32,114,49,44,32,48,120]++hxL (hxF w) [])++ [10,108,105,32,114,50,44,32])++dcN (4*a))++ [10,115,119,32,114,49,44,32,48,40,114,50,41,10,110,111,112,10,110,111,112,10,97,100,100,105,32,114,51,44,32,114,51,44,32,49,10,115,119,32,114,49,44,32])++dcZ b⟩⟩:=sAp _ _;have x6:(⟨⟨(((([108,105,32,114,49,44,32,48,120]++hxL (hxF w) [])++ [10,108,105,32,114,50,44,32])++dcN (4*a))++ [10,115,119,32,114,49,44,32,48,40,114,50,41,10,110,111,112,10,110,111,112,10,97,100,100,105,32,114,51,44,32,114,51,44,32,49,10,115,119,32,114,49,44,32])++dcZ b⟩⟩++⟨⟨[40,114,50,41,10,110,111,112,10,97,100,100,105,32,114,51,44,32,114,51,44,32,49,10,106,97,108,32,114,48,44,32,45,55,10]⟩⟩:ByteArray)=⟨⟨Qn2 (hxF w) a b⟩⟩:=(sAp _ _).trans (by rw [QCo]);have y0:(⟨⟨hxL (hxF w) []⟩⟩:ByteArray).size=8:=rfl;have y1:(⟨⟨[108,105,32,114,49,44,32,48,120]++hxL (hxF w) []⟩⟩:ByteArray).size<=100:=by rw [sSz];simp
 have y2:(⟨⟨([108,105,32,114,49,44,32,48,120]++hxL (hxF w) [])++ [10,108,105,32,114,50,44,32]⟩⟩:ByteArray).size<=200:=by rw [sSz];simp
 have y3:(⟨⟨(([108,105,32,114,49,44,32,48,120]++hxL (hxF w) [])++ [10,108,105,32,114,50,44,32])++dcN (4*a)⟩⟩:ByteArray).size<=300:=by rw [sSz,zla];simp;omega
 have y4:(⟨⟨((([108,105,32,114,49,44,32,48,120]++hxL (hxF w) [])++ [10,108,105,32,114,50,44,32])++dcN (4*a))++ [10,115,119,32,114,49,44,32,48,40,114,50,41,10,110,111,112,10,110,111,112,10,97,100,100,105,32,114,51,44,32,114,51,44,32,49,10,115,119,32,114,49,44,32]⟩⟩:ByteArray).size<=400:=by rw [sSz,zla,zla];simp;omega
 have y5:(⟨⟨(((([108,105,32,114,49,44,32,48,120]++hxL (hxF w) [])++ [10,108,105,32,114,50,44,32])++dcN (4*a))++ [10,115,119,32,114,49,44,32,48,40,114,50,41,10,110,111,112,10,110,111,112,10,97,100,100,105,32,114,51,44,32,114,51,44,32,49,10,115,119,32,114,49,44,32])++dcZ b⟩⟩:ByteArray).size<=500:=by rw [sSz,zla,zla,zla];simp;omega
 have y6:(⟨⟨dcN (4*a)⟩⟩:ByteArray).size<=10:=sz1;have y7:(⟨⟨dcZ b⟩⟩:ByteArray).size<=14:=sz6
 have z1 : (⟨⟨[108, 105, 32, 114, 49, 44, 32, 48, 120]⟩⟩ : ByteArray).size + (⟨⟨hxL (hxF w) []⟩⟩ : ByteArray).size ≤ 9223372036854775807 := by rw [y0]; decide
 have z2 : (⟨⟨[108, 105, 32, 114, 49, 44, 32, 48, 120] ++ hxL (hxF w) []⟩⟩ : ByteArray).size + (⟨⟨[10, 108, 105, 32, 114, 50, 44, 32]⟩⟩ : ByteArray).size ≤ 9223372036854775807 := by rw [show (⟨⟨[10, 108, 105, 32, 114, 50, 44, 32]⟩⟩ : ByteArray).size = 8 from rfl]; omega
 have z3 := Nat.le_trans (Nat.add_le_add y2 y6) (show 200 + 10 ≤ 9223372036854775807 by decide)
 have z4 : (⟨⟨(([108, 105, 32, 114, 49, 44, 32, 48, 120] ++ hxL (hxF w) []) ++ [10, 108, 105, 32, 114, 50, 44, 32]) ++ dcN (4 * a)⟩⟩ : ByteArray).size + (⟨⟨[10, 115, 119, 32, 114, 49, 44, 32, 48, 40, 114, 50, 41, 10, 110, 111, 112, 10, 110, 111, 112, 10, 97, 100, 100, 105, 32, 114, 51, 44, 32, 114, 51, 44, 32, 49, 10, 115, 119, 32, 114, 49, 44, 32]⟩⟩ : ByteArray).size ≤ 9223372036854775807 := by rw [show (⟨⟨[10, 115, 119, 32, 114, 49, 44, 32, 48, 40, 114, 50, 41, 10, 110, 111, 112, 10, 110, 111, 112, 10, 97, 100, 100, 105, 32, 114, 51, 44, 32, 114, 51, 44, 32, 49, 10, 115, 119, 32, 114, 49, 44, 32]⟩⟩ : ByteArray).size = 44 from rfl]; omega
 have z5 := Nat.le_trans (Nat.add_le_add y4 y7) (show 400 + 14 ≤ 9223372036854775807 by decide)
 have z6 : (⟨⟨(((([108, 105, 32, 114, 49, 44, 32, 48, 120] ++ hxL (hxF w) []) ++ [10, 108, 105, 32, 114, 50, 44, 32]) ++ dcN (4 * a)) ++ [10, 115, 119, 32, 114, 49, 44, 32, 48, 40, 114, 50, 41, 10, 110, 111, 112, 10, 110, 111, 112, 10, 97, 100, 100, 105, 32, 114, 51, 44, 32, 114, 51, 44, 32, 49, 10, 115, 119, 32, 114, 49, 44, 32]) ++ dcZ b⟩⟩ : ByteArray).size + (⟨⟨[40, 114, 50, 41, 10, 110, 111, 112, 10, 97, 100, 100, 105, 32, 114, 51, 44, 32, 114, 51, 44, 32, 49, 10, 106, 97, 108, 32, 114, 48, 44, 32, 45, 55, 10]⟩⟩ : ByteArray).size ≤ 9223372036854775807 := by rw [show (⟨⟨[40, 114, 50, 41, 10, 110, 111, 112, 10, 97, 100, 100, 105, 32, 114, 51, 44, 32, 114, 51, 44, 32, 49, 10, 106, 97, 108, 32, 114, 48, 44, 32, 45, 55, 10]⟩⟩ : ByteArray).size = 35 from rfl]; omega
 generalize (⟨⟨Qn2 (hxF w) a b⟩⟩:ByteArray)=X6,(⟨⟨(((([108,105,32,114,49,44,32,48,120]++hxL (hxF w) [])++ [10,108,105,32,114,50,44,32])++dcN (4*a))++ [10,115,119,32,114,49,44,32,48,40,114,50,41,10,110,111,112,10,110,111,112,10,97,100,100,105,32,114,51,44,32,114,51,44,32,49,10,115,119,32,114,49,44,32])++dcZ b⟩⟩:ByteArray)=X5,(⟨⟨((([108,105,32,114,49,44,32,48,120]++hxL (hxF w) [])++ [10,108,105,32,114,50,44,32])++dcN (4*a))++ [10,115,119,32,114,49,44,32,48,40,114,50,41,10,110,111,112,10,110,111,112,10,97,100,100,105,32,114,51,44,32,114,51,44,32,49,10,115,119,32,114,49,44,32]⟩⟩:ByteArray)=X4,(⟨⟨(([108,105,32,114,49,44,32,48,120]++hxL (hxF w) [])++ [10,108,105,32,114,50,44,32])++dcN (4*a)⟩⟩:ByteArray)=X3,(⟨⟨([108,105,32,114,49,44,32,48,120]++hxL (hxF w) [])++ [10,108,105,32,114,50,44,32]⟩⟩:ByteArray)=X2,(⟨⟨[108,105,32,114,49,44,32,48,120]++hxL (hxF w) []⟩⟩:ByteArray)=X1,(⟨⟨hxL (hxF w) []⟩⟩:ByteArray)=XH,(⟨⟨dcN (4*a)⟩⟩:ByteArray)=XA,(⟨⟨dcZ b⟩⟩:ByteArray)=XB at *;have hsw:=Qaa ws;generalize wsv ws=WS at *;have he0:Qaq ([]:List SV)=true:=rfl;have he1:=Qaa Mq.m;have ha1:=Qaa Ma.m;have ha2:=Qaf T1;have FI:=Qad B1;have ha6:=(Qaz vO).2.1;have qxl:=hM.x;have qcl:=hM.c;have axl:=hMa.x;have acl:=hMa.c;clear hM UB gH hMa vO yR wG sz1 sz6 hd;dsimp only [Eg.V] at *;generalize T1.length=t1n,B1.length=b1n,os.length=osn,tes T1=T1T,bks B1=B1B,OLs os=OSS at *;obtain ⟨_,_,_,qm,_,_,_,_,qf,qn⟩:=Mq;cases qf;cases qn;dsimp only at qxl qcl;cases QaO qxl;cases zC8 qcl;obtain ⟨_,_,_,am,_,_,_,_,af,an⟩:=Ma;cases af;cases an;dsimp only at axl acl;cases QaO axl;cases zC8 acl;dsimp only [Mc.C,Mc.D,Dk.C,Nk.C] at cm c1 c2 c3 c4 c5 c6;simp only [Qai,zca,zna] at cm c1 c2 c3 c4 c5 c6;generalize qm.length=qnn,wsv qm=qX,am.length=amn,wsv am=amX at *;refine fnW Tryz.func3 ?_;(repeat' ((conv=>whnf);first|exact zi4|refine zj4 fun hb=>?_|(with_reducible first|refine zv tm1 ?_|refine zv u1 ?_|refine zv u2 ?_|refine zv u3 ?_)|((with_reducible apply Vl.mk (α:=ByteArray)); . first|exact x1|exact x2|exact x3|exact x4|exact x5|exact x6)|(apply Sd.mk; . first|exact z1|exact z2|exact z3|exact z4|exact z5|exact z6)|(refine zpu ci ?_)|(refine zpu ce ?_)|(refine zpu ch ?_)|(refine zpu r1 ?_)|(refine zpu r2 ?_)|(refine zpu d1 ?_)|(refine zpu d2 ?_)|(refine Qae cas [] [] aRn trivial trivial ⟨rfl,QbK rfl⟩ ?_)|(refine QaD cm ?_)|(refine QaD c1 ?_)|(refine QmD c2 ?_)|(refine QaD c3 ?_)|(refine Qg6 c5 ?_)|(refine Qg6 c6 ?_)|(refine QmD c4 ?_)|(refine zpu ca ?_)|refine zse ?_|refine zbb ?_ ?_))
 all_goals exact zF_
end Go.Proofs.YtflaceijiphfdaaGreat
