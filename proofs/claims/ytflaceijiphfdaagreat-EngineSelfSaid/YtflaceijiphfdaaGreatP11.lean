import Derived.Test.YtflaceijiphfdaaGreatP52
import Derived.Test.YtflaceijiphfdaaGreatP10
set_option linter.unusedSimpArgs false
set_option linter.unusedVariables false
set_option maxHeartbeats 0
set_option maxRecDepth 1000000
namespace Go.Proofs.YtflaceijiphfdaaGreat
open Go Go.RowKit
def spl (a:List UInt8):List UInt8->List (List UInt8)
 | []=>if a= [] then [] else [a]
 | c::r=>if c.toNat=10 then a::spl [] r else spl (a++ [c]) r
theorem QbV (l r:List UInt8):∀ (a:List UInt8),(∀ c∈l,c.toNat≠10)->spl a (l++10::r)=(a++l)::spl [] r:=by
 induction l with
 | nil=>intro a _;rw [List.append_nil];show (if (10:UInt8).toNat=10 then a::spl [] r else _)=_;rw [zP (by decide)]
 | cons c l ih =>
  intro a h;show (if c.toNat=10 then _ else spl (a++ [c]) (l++10::r))=_;rw [zN (h c (List.mem_cons_self ..)),ih _ fun x hx=>h x (List.mem_cons_of_mem _ hx),List.append_assoc];rfl
def Qip (l:List (List UInt8)):List SV:=l.map fun s=> .str ⟨⟨s⟩⟩
theorem Qiq (l:List (List UInt8)):Qaq (Qip l)=true:=by
 induction l with
 | nil=>rfl
 | cons a l ih=>exact ih
def Qxw (S:ByteArray) (f i k:Nat) (R:List SV):St :=
 ⟨[(0,.a (.s (.str S))),(3,.a (.s (.sl 0 0 k))),(4,.a (.s (.i f))),(5,.a (.s (.i i)))],[(0,some ⟨true,1,R⟩)],[0]⟩
theorem Qtt (l:List UInt8) (n:Nat) (hl:l.length=n) (hn:n<=1000000) (K:Nat) (hK:(spl [] l).length=K) :
  FN 41 [.s (.str ⟨⟨l⟩⟩)] [] (. =⟨.a (.s (.sl 0 0 K)),[],[⟨true,1,Qip (spl [] l)⟩]⟩):=by
 have hS:(⟨⟨l⟩⟩:ByteArray).size=n:=hl;have hx:∀ a b,(⟨⟨l⟩⟩:ByteArray).extract a b=⟨⟨(l.drop a).take (b-a)⟩⟩:=fun a b=>sxt _ _ _ _ rfl
 have hg:∀ (i:Nat) c,l[i]?=some c->(⟨⟨l⟩⟩:ByteArray)[i]?=some c:=fun i c h=>by
  obtain ⟨h1,h2⟩:=zgs.1 h;have h3:i<(⟨⟨l⟩⟩:ByteArray).size:=by rw [hS];omega
  rw [getElem?_pos (⟨⟨l⟩⟩:ByteArray) i h3,<- h2];rfl
 generalize (⟨⟨l⟩⟩:ByteArray)=S at *;refine fnW Tryz.func41 ?_;(conv=>whnf);(repeat' ((first|exact zi2|refine zj0 fun hb=>?_|refine zse ?_|refine zbb ?_ ?_)<;>conv=>whnf))
 refine Lp.inv (fun mm σ=>∃ (f i:Nat) (dn:List (List UInt8)),mm+i=n/\f<=i/\dn.length<=f/\spl [] l=dn++spl ((l.drop f).take (i-f)) (l.drop i)/\σ=Qxw S f i dn.length (Qip dn)) ?_ ?_
 .refine ⟨n,Qxw S 0 0 0 [],?_,0,0,[],by omega,by omega,by decide,by simp,rfl⟩
  apply Qcu (m:= [(0,none)])
  .repeat' (first|exact Qa1|apply QaQ)
   all_goals exact QzC
  .show HlS _ _ [] _
   refine Qat (QcM rfl rfl) ?_;exact QaL
  .rfl
 rintro mm σ ⟨f,i,dn,yP,hfi,hdf,FT,rfl⟩;unfold Qxw;have hr0:=Qiq dn
 by_cases gO:i<n
 .obtain ⟨c,hc⟩:∃ c,l[i]?=some c:=⟨_,zgg (by omega)⟩
  have KR:=hg i c hc
  have hd:l.drop i=c::l.drop (i+1):=by
   obtain ⟨h1,h2⟩:=zgs.1 hc;rw [<- h2];exact List.drop_eq_getElem_cons h1
  rw [hd] at FT;have q0:IntKind.i64.wrap ((i:Int)+1)=((i+1:Nat):Int):=QbF;have gF:(Qip dn).length=dn.length:=by unfold Qip;rw [List.length_map]
  by_cases jL:c.toNat=10
  .have wZ:spl [] l=(dn++ [(l.drop f).take (i-f)])++spl ((l.drop (i+1)).take (i+1-(i+1))) (l.drop (i+1)):=by
    rw [FT,Nat.sub_self,List.take_zero,List.append_assoc];congr 1;show (if c.toNat=10 then _ else _)=_;rw [zP jL];rfl
   have jC:Qip dn++ [.str ⟨⟨(l.drop f).take (i-f)⟩⟩]=Qip (dn++ [(l.drop f).take (i-f)]):=by unfold Qip;rw [List.map_append];rfl
   have jK:=hx f i;have wX:=Qiq (dn++ [(l.drop f).take (i-f)]);have wB:dn.length+1=(dn++ [(l.drop f).take (i-f)]).length:=by rw [zla];rfl
   generalize (l.drop f).take (i-f)=X at *;generalize dn++ [X]=D,hX:(⟨⟨X⟩⟩:ByteArray)=XB,GK:Qip dn=R0 at *;generalize FZ:Qip D=R1,hkk:dn.length=k0,hkk1:D.length=k1 at *;clear hx hg hd hc;(conv=>whnf);(repeat' ((first|exact zi2|refine zj0 fun hb=>?_|(with_reducible refine zv q0 ?_)|((with_reducible apply Vl.mk (α:=Nat)); . with_reducible exact wB)|((with_reducible apply Vl.mk (α:=ByteArray)); . exact jK)|(apply Sd.mk; . first|exact ⟨rfl,Int.natCast_nonneg _⟩|(refine ⟨rfl,rfl,?_,?_,?_⟩;(focus (show R0.length=k0*1;omega));(focus (show (k0+1)*16<=_;omega));(focus omega))|(refine ⟨?_,?_,?_⟩<;>omega))|((with_reducible apply Ge.mk (α:=UInt8)); . exact KR)|refine QCY ?_|refine zse ?_|refine zbb ?_ ?_)<;>conv=>whnf))
   all_goals first|(exfalso;omega)|(exfalso;simp at hb;done)|(refine ⟨mm-1,Qxw S (i+1) (i+1) k1 R1,by omega,?_,i+1,i+1,D,by omega,by omega,by omega,wZ,by rw [FZ,hkk1];rfl⟩;unfold Qxw;(exact zwL [(0,some _)]))
  .have wZ:spl [] l=dn++spl ((l.drop f).take (i+1-f)) (l.drop (i+1)):=by
    rw [FT];congr 1;show (if c.toNat=10 then _ else spl ((l.drop f).take (i-f)++ [c]) _)=_;rw [zN jL];congr 1;rw [show i+1-f=(i-f)+1 by omega,List.take_add_one,List.getElem?_drop,show f+(i-f)=i by omega,hc];rfl
   generalize GK:Qip dn=R0,hkk:dn.length=k0 at *;clear hx hg hd hc;(conv=>whnf);(repeat' ((first|exact zi2|refine zj0 fun hb=>?_|(with_reducible refine zv q0 ?_)|refine Qn4 ?_|((with_reducible apply Ge.mk (α:=UInt8)); . exact KR)|refine zse ?_|refine zbb ?_ ?_)<;>conv=>whnf))
   all_goals first|(exfalso;omega)|(exfalso;simp at hb;done)|(refine ⟨mm-1,Qxw S f (i+1) k0 R0,by omega,?_,f,i+1,dn,by omega,by omega,by omega,wZ,by rw [GK,hkk];rfl⟩;unfold Qxw;(exact zwL [(0,some 0)]))
 .obtain rfl:i=n:=by omega
  have hd:l.drop i= []:=List.drop_eq_nil_of_le (by omega);rw [hd] at FT;have gF:(Qip dn).length=dn.length:=by unfold Qip;rw [List.length_map]
  by_cases hf:f<i
  .have jJ:(l.drop f).take (i-f)≠ []:=fun h=>by
    have:=congrArg List.length h;rw [List.length_take,List.length_drop] at this;simp at this;omega
   have wZ:spl [] l=dn++ [(l.drop f).take (i-f)]:=by
    rw [FT];congr 1;show (if _= [] then _ else _)=_;rw [zN jJ]
   rw [wZ] at hK |-;have jC:Qip dn++ [.str ⟨⟨(l.drop f).take (i-f)⟩⟩]=Qip (dn++ [(l.drop f).take (i-f)]):=by unfold Qip;rw [List.map_append];rfl
   have jK:=hx f i;have wX:=Qiq (dn++ [(l.drop f).take (i-f)]);have wB:dn.length+1=K:=by rw [<- hK,zla];rfl
   generalize (l.drop f).take (i-f)=X at *;generalize hX:(⟨⟨X⟩⟩:ByteArray)=XB,Qip (dn++ [X])=R1,Qip dn=R0,dn.length=k0 at *;clear hx hg hd FT wZ;have hxx':S.extract f S.size=XB:=by rw [hS];exact jK
   (repeat' ((conv=>whnf);first|exact zi2|refine zj0 fun hb=>?_|((with_reducible apply Vl.mk (α:=Nat)); . with_reducible exact wB)|((with_reducible apply Vl.mk (α:=ByteArray)); . exact hxx')|(apply Sd.mk; . first|(refine ⟨rfl,rfl,?_,?_,?_⟩;(focus (show R0.length=k0*1;omega));(focus (show (k0+1)*16<=_;omega));(focus omega))|(refine ⟨?_,?_,?_⟩<;>omega))|refine QCY ?_|refine zse ?_|refine zbb ?_ ?_))
   all_goals exact QIG
  .have jJ:(l.drop f).take (i-f)= []:=by rw [show i-f=0 by omega];rfl
   have wZ:spl [] l=dn:=by
    rw [FT,jJ];show dn++(if _= [] then _ else _)=_;rw [zP rfl,List.append_nil]
   rw [wZ] at hK |-;rw [hK] at gF |-;generalize Qip dn=R0 at *;clear hx hg hd FT wZ;(repeat' ((conv=>whnf);first|exact zi2|refine zj0 fun hb=>?_|refine zse ?_|refine zbb ?_ ?_))
   all_goals exact Qfe
abbrev st6 (w:List UInt8) (o:Int) (a:SV) (l t s:Int) (r:List SV):List SV:= .str ⟨⟨w⟩⟩:: .i o::a:: .i l:: .i t:: .i s::r
def QED:List SV :=
 st6 [108,105] 0 (.sl 1 0 2) 1 0 2 <| st6 [108,105] 0 (.sl 2 0 2) 2 2 2 <| st6 [115,119] 35 (.sl 3 0 3) 3 4 1 <| st6 [110,111,112] 0 .nilsl 4 5 1 <| st6 [110,111,112] 0 .nilsl 5 6 1 <|
 st6 [97,100,100,105] 16 (.sl 4 0 3) 6 7 1 <| st6 [115,119] 35 (.sl 5 0 3) 7 8 1 <| st6 [110,111,112] 0 .nilsl 8 9 1 <| st6 [97,100,100,105] 16 (.sl 6 0 3) 9 10 1 <| st6 [106,97,108] 48 (.sl 7 0 2) 10 11 1 []
abbrev psC (w:List UInt8) (o s:Int) (n:Nat) (A:List SV):Res:=⟨.tup [.s (.str ⟨⟨[]⟩⟩),.agg [.str ⟨⟨w⟩⟩,.i o,.sl 0 0 n,.i 0,.i 0,.i s],.s (.bool true)],[],[⟨true,3,A⟩]⟩
abbrev psO:Res:=⟨.tup [.s (.str ⟨⟨[]⟩⟩),.agg [.str ⟨⟨[110,111,112]⟩⟩,.i 0,.nilsl,.i 0,.i 0,.i 1],.s (.bool true)],[],[]⟩
theorem Qx0 (S B0 B1 B2 B3 B5 B6 B9:ByteArray) (A0 A1 A2 A5 A6 A9:List SV) (hS:S.size<=8192)
  (cl:FN 41 [.s (.str S)] [] (. =⟨.a (.s (.sl 0 0 10)),[],[⟨true,1,[.str B0,.str B1,.str B2,.str B3,.str B3,.str B5,.str B6,.str B3,.str B5,.str B9]⟩]⟩))
  (p0:FN 42 [.s (.str B0)] [] (. =psC [108,105] 0 2 2 A0))
  (p1:FN 42 [.s (.str B1)] [] (. =psC [108,105] 0 2 2 A1))
  (p2:FN 42 [.s (.str B2)] [] (. =psC [115,119] 35 1 3 A2))
  (p3:FN 42 [.s (.str B3)] [] (. =psO))
  (p5:FN 42 [.s (.str B5)] [] (. =psC [97,100,100,105] 16 1 3 A5))
  (p6:FN 42 [.s (.str B6)] [] (. =psC [115,119] 35 1 3 A6))
  (p9:FN 42 [.s (.str B9)] [] (. =psC [106,97,108] 48 1 2 A9))
  (h0:Qaq A0=true) (h1:Qaq A1=true) (h2:Qaq A2=true) (h5:Qaq A5=true) (h6:Qaq A6=true) (h9:Qaq A9=true) :
  FN 22 [.s (.str S)] [] (. =⟨.tup [.s .nilsl,.s (.sl 0 0 10),.agg [.i 0,.i 0]],[],[⟨true,6,QED⟩,⟨true,3,A0⟩,⟨true,3,A1⟩,⟨true,3,A2⟩,⟨true,3,A5⟩,⟨true,3,A6⟩,⟨true,3,A5⟩,⟨true,3,A9⟩]⟩):=by
 unfold QED st6;refine fnW Tryz.func22 ?_;(conv=>whnf);(repeat' ((first|exact zi2|refine zj0 fun hb=>?_|refine QGE ?_|(refine Qae cl [] [] aRn trivial trivial ⟨rfl,QbK rfl⟩ ?_)|(refine Qae p0 [] [] aRn trivial trivial ⟨rfl,QbK rfl⟩ ?_)|(refine Qae p1 [] [] aRn trivial trivial ⟨rfl,QbK rfl⟩ ?_)|(refine Qae p2 [] [] aRn trivial trivial ⟨rfl,QbK rfl⟩ ?_)|(refine Qae p3 [] [] aRn trivial trivial ⟨rfl,QbK rfl⟩ ?_)|(refine Qae p5 [] [] aRn trivial trivial ⟨rfl,QbK rfl⟩ ?_)|(refine Qae p6 [] [] aRn trivial trivial ⟨rfl,QbK rfl⟩ ?_)|(refine Qae p9 [] [] aRn trivial trivial ⟨rfl,QbK rfl⟩ ?_)|(refine Lp.unroll 11 ?_)|refine zse ?_|refine zbb ?_ ?_)<;>conv=>whnf))
 all_goals first|(exfalso;omega)|(exfalso;simp at hb;done)|(apply Fin.mk (m:= [(0,some 6815936),(1,some 590080),(2,some 1245440),(3,some 1900800),(4,some 3866880),(5,some 4522240),(6,some 5832960),(7,some 6488320)]);(focus exact rfl);(all_goals ((try (show HlS _ _ [] _));first|(exact aFi)|exact rfl)))
theorem Qew (o a b c m:Int) (hm: -2147483648<=m/\m<=2147483647) (hv:rvV o a b c m=true):∃ w:Nat,w<4294967296/\FN 4 [.agg (iv o a b c m)] [] (. =⟨.tup [.s (.u w),.s (.bool true)],[],[]⟩):=by
 have h:=Qi3 o a b c m hm hv;have hl:=Qu7 hv;refine ⟨(QsV o a b c m).toNat,by omega,?_⟩;rw [Int.toNat_of_nonneg hl.1];exact h
theorem QCq (K l t v:Int) (hK: -32768<=K/\K<=32767) (w:Nat) (he:FN 4 [.agg (iv 35 1 2 0 K)] [] (. =⟨.tup [.s (.u w),.s (.bool true)],[],[]⟩)) :
  FN 24 [.agg [.str ⟨⟨[115,119]⟩⟩,.i 35,.sl 0 0 3,.i l,.i t,.i 1],.s (.i v)] [⟨false,3,[.i 1,.i 0,.str ⟨⟨[]⟩⟩,.i 0,.i K,.str ⟨⟨[]⟩⟩,.i 2,.i 0,.str ⟨⟨[]⟩⟩]⟩]
   (. =⟨.tup [.s (.u w),.s (.bool true)],[],[]⟩):=by
 have f1:=Qgl 35;have f2:=Qeq 3;rw [show QaK 35=3 from by decide] at f1;rw [show loV 3= -32768 from by decide,show hiV 3=32767 from by decide] at f2;have q1:IntKind.i32.wrap K=K:=Qsq (by omega) (by omega);unfold iv at he;refine fnW Tryz.func24 ?_;(repeat' ((conv=>whnf);first|exact zi2|refine zj0 fun hb=>?_|refine Qzs ?_|(refine zpu f1 ?_)|(refine zpu f2 ?_)|(refine zpu he ?_)|refine zse ?_|refine zbb ?_ ?_))
 all_goals exact Qfe
theorem Qoc (l t:Int) (w:Nat) (he:FN 4 [.agg (iv 16 3 3 0 1)] [] (. =⟨.tup [.s (.u w),.s (.bool true)],[],[]⟩)) :
  FN 24 [.agg [.str ⟨⟨[97,100,100,105]⟩⟩,.i 16,.sl 0 0 3,.i l,.i t,.i 1],.s (.i 1)] [⟨false,3,[.i 3,.i 0,.str ⟨⟨[]⟩⟩,.i 3,.i 0,.str ⟨⟨[]⟩⟩,.i 0,.i 1,.str ⟨⟨[]⟩⟩]⟩]
   (. =⟨.tup [.s (.u w),.s (.bool true)],[],[]⟩):=by
 have f1:=Qgl 16;have f2:=Qeq 3;rw [show QaK 16=3 from by decide] at f1;rw [show loV 3= -32768 from by decide,show hiV 3=32767 from by decide] at f2;exact QDm
theorem QBD (l t:Int) (w:Nat) (he:FN 4 [.agg (iv 48 0 0 0 (-7))] [] (. =⟨.tup [.s (.u w),.s (.bool true)],[],[]⟩)) :
  FN 24 [.agg [.str ⟨⟨[106,97,108]⟩⟩,.i 48,.sl 0 0 2,.i l,.i t,.i 1],.s (.i (-7))] [⟨false,3,[.i 0,.i 0,.str ⟨⟨[]⟩⟩,.i 0,.i (-7),.str ⟨⟨[]⟩⟩]⟩]
   (. =⟨.tup [.s (.u w),.s (.bool true)],[],[]⟩):=by
 have f1:=Qgl 48;have f2:=Qeq 7;rw [show QaK 48=7 from by decide] at f1;rw [show loV 7= -32768 from by decide,show hiV 7=32767 from by decide] at f2;exact QDm
abbrev ag2 (a:Int) (b:Int):List SV:= [.i a,.i 0,.str ⟨⟨[]⟩⟩,.i 0,.i b,.str ⟨⟨[]⟩⟩]
abbrev ag4 (a b:Int) (K:Int) (c n:Int):List SV:= [.i a,.i 0,.str ⟨⟨[]⟩⟩,.i b,.i K,.str ⟨⟨[]⟩⟩,.i c,.i n,.str ⟨⟨[]⟩⟩]
abbrev eqE (o a b c m:Int) (w:Nat):Prop:=FN 4 [.agg (iv o a b c m)] [] (. =⟨.tup [.s (.u w),.s (.bool true)],[],[]⟩)
theorem Qv6 (S:ByteArray) (N M:Nat) (K:Int) (hN:ZU N) (hM:ZU M) (hK: -32768<=K/\K<=32767)
  (cr:FN 22 [.s (.str S)] [] (. =⟨.tup [.s .nilsl,.s (.sl 0 0 10),.agg [.i 0,.i 0]],[],[⟨true,6,QED⟩,⟨true,3,ag2 1 N⟩,⟨true,3,ag2 2 M⟩,⟨true,3,ag4 1 0 0 2 0⟩,⟨true,3,ag4 3 3 0 0 1⟩,⟨true,3,ag4 1 0 K 2 0⟩,⟨true,3,ag4 3 3 0 0 1⟩,⟨true,3,ag2 0 (-7)⟩]⟩))
  (w0 w1 w2 w3 w4 w5 w6 w7 w8:Nat) (e0:eqE 24 1 0 0 (N / 65536:Nat) w0) (e1:eqE 18 1 1 0 (N%65536:Nat) w1) (e2:eqE 24 2 0 0 (M / 65536:Nat) w2) (e3:eqE 18 2 2 0 (M%65536:Nat) w3)
  (e4:eqE 35 1 2 0 0 w4) (e5:eqE 16 0 0 0 0 w5) (e6:eqE 16 3 3 0 1 w6) (e7:eqE 35 1 2 0 K w7) (e8:eqE 48 0 0 0 (-7) w8) :
  FN 9 [.s (.str S)] [] (. =⟨.tup [.s (.sl 0 0 12),.agg [.i 0,.i 0]],[],[⟨true,1,wsv [w0,w1,w2,w3,w4,w5,w5,w6,w7,w5,w6,w8]⟩]⟩):=by
 have i2:=QCq 0 3 4 0 (by omega) w4 e4;have i6:=QCq K 7 8 0 hK w7 e7;have i5:=Qoc 6 7 w6 e6;have i8:=Qoc 9 10 w6 e6;have i9:=QBD 10 11 w8 e8;have s1:IntKind.u32.wrap (N:Int)=(N:Int):=QeO (by omega) (by omega);have s2:IntKind.u32.wrap (M:Int)=(M:Int):=QeO (by omega) (by omega);have t1:(N:Int) / 2^min (Int.toNat 16) IntKind.u32.bits=((N / 65536:Nat):Int):=QDK;have t2:(M:Int) / 2^min (Int.toNat 16) IntKind.u32.bits=((M / 65536:Nat):Int):=QDK;have u1:bits .and .u32 (N:Int) 65535=((N%65536:Nat):Int):=(e_i N hN).trans (by unfold dI;omega);have u2:bits .and .u32 (M:Int) 65535=((M%65536:Nat):Int):=(e_i M hM).trans (by unfold dI;omega);have v1:IntKind.i32.wrap ((N / 65536:Nat):Int)=((N / 65536:Nat):Int):=Qsq (by omega) (by omega);have v2:IntKind.i32.wrap ((M / 65536:Nat):Int)=((M / 65536:Nat):Int):=Qsq (by omega) (by omega);have v3:IntKind.i32.wrap ((N%65536:Nat):Int)=((N%65536:Nat):Int):=Qsq (by omega) (by omega);have v4:IntKind.i32.wrap ((M%65536:Nat):Int)=((M%65536:Nat):Int):=Qsq (by omega) (by omega);unfold QED st6 at cr;unfold eqE iv at e0 e1 e2 e3 e5;clear e4 e6 e7 e8;generalize N / 65536=nh,N%65536=nl,M / 65536=mh,M%65536=ml at *;have a1:Qaq (ag2 1 N)=true:=rfl;have a2:Qaq (ag2 2 M)=true:=rfl;have a3:Qaq (ag4 1 0 0 2 0)=true:=rfl;have a4:Qaq (ag4 3 3 0 0 1)=true:=rfl;have a5:Qaq (ag4 1 0 K 2 0)=true:=rfl;have a6:Qaq (ag2 0 (-7))=true:=rfl;refine fnW Tryz.func9 ?_;(conv=>whnf);(repeat' ((first|exact zi2|refine zj0 fun hb=>?_|refine QGE ?_|(with_reducible first|refine zv s1 ?_|refine zv s2 ?_|refine zv t1 ?_|refine zv t2 ?_|refine zv u1 ?_|refine zv u2 ?_|refine zv v1 ?_|refine zv v2 ?_|refine zv v3 ?_|refine zv v4 ?_)|(refine Qae cr [] [] aRn trivial trivial ⟨rfl,QbK rfl⟩ ?_)|(refine zpu e0 ?_)|(refine zpu e1 ?_)|(refine zpu e2 ?_)|(refine zpu e3 ?_)|(refine zpu e5 ?_)|(refine QaD i2 ?_)|(refine QaD i6 ?_)|(refine QaD i5 ?_)|(refine QaD i8 ?_)|(refine QaD i9 ?_)|(refine Lp.unroll 11 ?_)|refine zse ?_|refine zbb ?_ ?_)<;>conv=>whnf))
 all_goals first|(exfalso;omega)|(exfalso;simp at hb;done)|(apply Fin.mk (m:= [(0,some 10354880)]);(focus exact rfl);(all_goals ((try (show HlS _ _ [] _));first|(exact aFi)|exact rfl)))
def Qn2 (d:Nat->UInt8) (a b:Nat):List UInt8 :=
 (108::105::32::114::49::44::32::48::120::hxL d [])++10::(ln1 a++10::(ln2++10::(ln3++10::(ln3++10::(ln5++10::(ln6 b++10::(ln3++10::(ln5++10::(ln9++10:: [])))))))))
theorem Qqf:∀ a:Nat,a<30->(ln1 a).length<=10/\∀ c∈ln1 a,c.toNat≠10:=by decide
theorem Qqg:∀ a:Nat,a<8->(ln6 a).length<=14/\∀ c∈ln6 a,c.toNat≠10:=by decide
theorem QyY (d:Nat->UInt8) (a b:Nat) (ha:a<30) (hb:b<8):(Qn2 d a b).length<=200:=by
 have h1:=(Qqf a ha).1;have h2:=(Qqg b hb).1;unfold Qn2;simp only [zla,List.length_cons,List.length_nil,ln2,ln3,ln5,ln9];omega
theorem QyZ (d:Nat->UInt8) (hd:∀ k,k<8->hxB (d k)) (a b:Nat) (ha:a<30) (hb:b<8):spl [] (Qn2 d a b)= [108::105::32::114::49::44::32::48::120::hxL d [],ln1 a,ln2,ln3,ln3,ln5,ln6 b,ln3,ln5,ln9]:=by
 have hx:∀ k,k<8->(d k).toNat≠10:=fun k h=>by rcases hd k h with h|h<;>omega
 have h0:∀ c∈(108::105::32::114::49::44::32::48::120::hxL d []:List UInt8),c.toNat≠10:=by
  intro c hc;simp only [List.mem_cons,List.not_mem_nil,or_false] at hc;rcases hc with rfl|rfl|rfl|rfl|rfl|rfl|rfl|rfl|rfl|rfl|rfl|rfl|rfl|rfl|rfl|rfl|rfl
  all_goals first|decide|exact hx _ (by omega)
 unfold Qn2;rw [QbV _ _ _ h0,QbV _ _ _ (Qqf a ha).2,QbV ln2 _ _ (by decide),QbV ln3 _ _ (by decide),QbV ln3 _ _ (by decide),QbV ln5 _ _ (by decide),QbV _ _ _ (Qqg b hb).2,QbV ln3 _ _ (by decide),QbV ln5 _ _ (by decide),QbV ln9 _ _ (by decide)];simp only [zna];rfl
theorem QAA (d:Nat->UInt8) (hd:∀ k,k<8->hxB (d k)) (a b:Nat) (ha:a<30) (hb:b<8):∃ ws:List Nat,ws.length=12/\(ZL ws) /\
  FN 9 [.s (.str ⟨⟨Qn2 d a b⟩⟩)] [] (. =⟨.tup [.s (.sl 0 0 12),.agg [.i 0,.i 0]],[],[⟨true,1,wsv ws⟩]⟩):=by
 have hs:=QyZ d hd a b ha hb;have hl:=QyY d a b ha hb;have cl:=Qtt (Qn2 d a b) _ rfl (by omega) 10 (by rw [hs];rfl);rw [hs] at cl;have hN:=Qp5 d hd 8 (by omega);have hN:hx8 d 8<4294967296:=hN;obtain ⟨w0,_,e0⟩:=Qew 24 1 0 0 (hx8 d 8 / 65536:Nat) (by omega) (by unfold rvV;exact zdt ⟨by decide,by omega,by omega,by omega,by rw [show loV (QaK 24)=0 by decide];omega,by rw [show hiV (QaK 24)=65535 by decide];omega,by decide,by decide,by decide⟩);obtain ⟨w1,_,e1⟩:=Qew 18 1 1 0 (hx8 d 8%65536:Nat) (by omega) (by unfold rvV;exact zdt ⟨by decide,by omega,by omega,by omega,by rw [show loV (QaK 18)=0 by decide];omega,by rw [show hiV (QaK 18)=65535 by decide];omega,by decide,by decide,by decide⟩);obtain ⟨w2,_,e2⟩:=Qew 24 2 0 0 ((4*a) / 65536:Nat) (by omega) (by unfold rvV;exact zdt ⟨by decide,by omega,by omega,by omega,by rw [show loV (QaK 24)=0 by decide];omega,by rw [show hiV (QaK 24)=65535 by decide];omega,by decide,by decide,by decide⟩);obtain ⟨w3,_,e3⟩:=Qew 18 2 2 0 ((4*a)%65536:Nat) (by omega) (by unfold rvV;exact zdt ⟨by decide,by omega,by omega,by omega,by rw [show loV (QaK 18)=0 by decide];omega,by rw [show hiV (QaK 18)=65535 by decide];omega,by decide,by decide,by decide⟩);obtain ⟨w4,_,e4⟩:=Qew 35 1 2 0 0 (by omega) (by decide);obtain ⟨w5,_,e5⟩:=Qew 16 0 0 0 0 (by omega) (by decide);obtain ⟨w6,_,e6⟩:=Qew 16 3 3 0 1 (by omega) (by decide);obtain ⟨w7,_,e7⟩:=Qew 35 1 2 0 (4*(b:Int)-16) (by omega) (by unfold rvV;exact zdt ⟨by decide,by omega,by omega,by omega,by rw [show loV (QaK 35)= -32768 by decide];omega,by rw [show hiV (QaK 35)=32767 by decide];omega,by decide,by decide,by decide⟩);obtain ⟨w8,_,e8⟩:=Qew 48 0 0 0 (-7) (by omega) (by decide)
 have cr:=Qx0 ⟨⟨Qn2 d a b⟩⟩ (liS d) ⟨⟨ln1 a⟩⟩ ⟨⟨ln2⟩⟩ ⟨⟨ln3⟩⟩ ⟨⟨ln5⟩⟩ ⟨⟨ln6 b⟩⟩ ⟨⟨ln9⟩⟩ (ag2 1 (hx8 d 8:Nat)) (ag2 2 ((4*a:Nat):Int)) (ag4 1 0 0 2 0) (ag4 3 3 0 0 1) (ag4 1 0 (4*(b:Int)-16) 2 0) (ag2 0 (-7)) (by show (Qn2 d a b).length<=_;omega) cl
  (QqN d hd) (QCv 30 QF9 a ha) QFJ QFK QFL (QCw 8 QGa b hb) QFM rfl rfl rfl rfl rfl rfl
 refine ⟨[w0,w1,w2,w3,w4,w5,w5,w6,w7,w5,w6,w8],rfl,?_,Qv6 _ (hx8 d 8) (4*a) (4*(b:Int)-16) hN (by omega) (by omega) cr w0 w1 w2 w3 w4 w5 w6 w7 w8 e0 e1 e2 e3 e4 e5 e6 e7 e8⟩;intro y hy;simp only [List.mem_cons,List.not_mem_nil,or_false] at hy;rcases hy with rfl|rfl|rfl|rfl|rfl|rfl|rfl|rfl|rfl|rfl|rfl|rfl<;>assumption
theorem dS {n:Nat} (h:∀ a:Nat,a<n->FN 6 [.s (.i ((4*a:Nat):Int))] [] (. =⟨.a (.s (.str ⟨⟨dcN (4*a)⟩⟩)),[],[]⟩))
  (k:Qrh eqt tys true fns QBK 100 20 6 [.s (.i ((4*n:Nat):Int))] []=some ⟨.a (.s (.str ⟨⟨dcN (4*n)⟩⟩)),[],[]⟩:=by kernel_rfl) :
  ∀ a:Nat,a<n+1->FN 6 [.s (.i ((4*a:Nat):Int))] [] (. =⟨.a (.s (.str ⟨⟨dcN (4*a)⟩⟩)),[],[]⟩):=fun a ha=>by
 by_cases e:a=n
 .subst e;exact Qft k
 .exact h a (by omega)
theorem QwD:∀ a:Nat,a<30->FN 6 [.s (.i ((4*a:Nat):Int))] [] (. =⟨.a (.s (.str ⟨⟨dcN (4*a)⟩⟩)),[],[]⟩):=by
 iterate 30 refine dS ?_
 exact fun a h=>absurd h (by omega)
theorem dZ {n:Nat} (h:∀ a:Nat,a<n->FN 6 [.s (.i (4*(a:Int)-16))] [] (. =⟨.a (.s (.str ⟨⟨dcZ a⟩⟩)),[],[]⟩))
  (k:Qrh eqt tys true fns QBK 100 20 6 [.s (.i (4*(n:Int)-16))] []=some ⟨.a (.s (.str ⟨⟨dcZ n⟩⟩)),[],[]⟩:=by kernel_rfl) :
  ∀ a:Nat,a<n+1->FN 6 [.s (.i (4*(a:Int)-16))] [] (. =⟨.a (.s (.str ⟨⟨dcZ a⟩⟩)),[],[]⟩):=fun a ha=>by
 by_cases e:a=n
 .subst e;exact Qft k
 .exact h a (by omega)
theorem QwE:∀ a:Nat,a<8->FN 6 [.s (.i (4*(a:Int)-16))] [] (. =⟨.a (.s (.str ⟨⟨dcZ a⟩⟩)),[],[]⟩):=by
 iterate 8 refine dZ ?_
 exact fun a h=>absurd h (by omega)
end Go.Proofs.YtflaceijiphfdaaGreat
