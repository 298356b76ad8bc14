import Derived.Test.YtflaceijiphfdaaGreatP14
import Derived.Test.YtflaceijiphfdaaGreatP20
set_option linter.unusedSimpArgs false
set_option linter.unusedVariables false
set_option maxHeartbeats 0
set_option maxRecDepth 100000
namespace Go.Proofs.YtflaceijiphfdaaGreat
open Go Go.RowKit
def zer:Nat->List Nat
 | 0=> []
 | n+1=>0::zer n
theorem Qiz:∀ n,(zer n).length=n
 | 0=>rfl
 | n+1=>by show (zer n).length+1=_;rw [Qiz n]
theorem QxB {xs:List Nat} {a w y:Nat} (h:y∈xs.set a w):y∈xs\/y=w:=by
 exact List.mem_or_eq_of_mem_set h
theorem Qh1 (xs:List Nat) (a w j:Nat) (ha:a<xs.length):(xs.set a w).getD j 0=if j=a then w else xs.getD j 0:=by
 rw [zgd,zgd,List.getElem?_set]
 by_cases h:a=j
 .rw [zP h,zP ha,zP h.symm];rfl
 .rw [zN h,zN (fun e=>h e.symm)]
def XB (xs:List Nat) (n:Nat):Prop:=xs.length=n/\ZL xs
theorem QAo {xs:List Nat} {n i w:Nat} (h:XB xs n) (hw:ZU w):XB (xs.set i w) n :=
 ⟨by rw [List.length_set];exact h.1,fun y hy=>by rcases QxB hy with h1|h1;exact h.2 y h1;omega⟩
theorem Qlu:∀ n,wsv (zer n)=List.replicate n (SV.int .u32 0)
 | 0=>rfl
 | n+1=>by
  rw [List.replicate_succ,<- Qlu n];rfl
theorem QxJ (k:Nat) (h1:1<=k) (h2:k<=16):FN 26 [.s (.i k)] [] (. =⟨.a (.s (.sl 0 0 (k*32))),[],[⟨true,1,wsv (zer (k*32))⟩]⟩):=by
 rw [Qlu];have hz:=QvW (k*32);have hs:Qaq (List.replicate (k*32) (SV.int .u32 0))=true:=by rw [<- Qlu];exact Qaa _
 have e1:IntKind.i64.wrap ((k:Int)*32)=((k*32:Nat):Int):=QbF;generalize List.replicate (k*32) (SV.int .u32 0)=Z at *;refine fnW Tryz.func26 ?_;(repeat' ((conv=>whnf);first|exact zi0|refine zj0 fun hb=>?_|refine QHg ?_|(refine Zs.mk Z hz ?_)|refine zst ?_|refine zbb ?_ ?_))
 all_goals exact QHc
theorem QBj {a0 a1 a2 a3 a4 a5 a6 a7 a8 a9 a10 a11 a12 a13 a14 a15 a16 a17 a18 a19 a20 a21 a22 a23 a24 b0 b1 b2 b3 b4 b5 b6 b7 b8 b9 b10 b11 b12 b13 b14 b15 b16 b17 b18 b19 b20 b21 b22 b23 b24 z s:SV} {r:List SV} {place:Nat->Option (Nat × Nat)} (h:place 0=some (0,25)) (h':place 1=some (25,1)):QbX place (a0::a1::a2::a3::a4::a5::a6::a7::a8::a9::a10::a11::a12::a13::a14::a15::a16::a17::a18::a19::a20::a21::a22::a23::a24::z::r) [(0,[b0,b1,b2,b3,b4,b5,b6,b7,b8,b9,b10,b11,b12,b13,b14,b15,b16,b17,b18,b19,b20,b21,b22,b23,b24]),(1,[s])]=some (b0::b1::b2::b3::b4::b5::b6::b7::b8::b9::b10::b11::b12::b13::b14::b15::b16::b17::b18::b19::b20::b21::b22::b23::b24::s::r):=by
 have e:=QCj (o:=0) rfl (r:=z::r) (a0:=a0) (a1:=a1) (a2:=a2) (a3:=a3) (a4:=a4) (a5:=a5) (a6:=a6) (a7:=a7) (a8:=a8) (a9:=a9) (a10:=a10) (a11:=a11) (a12:=a12) (a13:=a13) (a14:=a14) (a15:=a15) (a16:=a16) (a17:=a17) (a18:=a18) (a19:=a19) (a20:=a20) (a21:=a21) (a22:=a22) (a23:=a23) (a24:=a24) (b0:=b0) (b1:=b1) (b2:=b2) (b3:=b3) (b4:=b4) (b5:=b5) (b6:=b6) (b7:=b7) (b8:=b8) (b9:=b9) (b10:=b10) (b11:=b11) (b12:=b12) (b13:=b13) (b14:=b14) (b15:=b15) (b16:=b16) (b17:=b17) (b18:=b18) (b19:=b19) (b20:=b20) (b21:=b21) (b22:=b22) (b23:=b23) (b24:=b24);have k:Nat.ble (0+ [b0,b1,b2,b3,b4,b5,b6,b7,b8,b9,b10,b11,b12,b13,b14,b15,b16,b17,b18,b19,b20,b21,b22,b23,b24].length) (a0::a1::a2::a3::a4::a5::a6::a7::a8::a9::a10::a11::a12::a13::a14::a15::a16::a17::a18::a19::a20::a21::a22::a23::a24::z::r).length=true:=Nat.ble_eq_true_of_le (by simp only [List.length_cons,List.length_nil];omega);have k2:Nat.ble (25+ [s].length) (b0::b1::b2::b3::b4::b5::b6::b7::b8::b9::b10::b11::b12::b13::b14::b15::b16::b17::b18::b19::b20::b21::b22::b23::b24::z::r).length=true:=Nat.ble_eq_true_of_le (by simp only [List.length_cons,List.length_nil];omega);unfold QbX;rw [h];show (match Nat.ble (0+ [b0,b1,b2,b3,b4,b5,b6,b7,b8,b9,b10,b11,b12,b13,b14,b15,b16,b17,b18,b19,b20,b21,b22,b23,b24].length) (a0::a1::a2::a3::a4::a5::a6::a7::a8::a9::a10::a11::a12::a13::a14::a15::a16::a17::a18::a19::a20::a21::a22::a23::a24::z::r).length with|false=>none|true=>QbX place (QaB (a0::a1::a2::a3::a4::a5::a6::a7::a8::a9::a10::a11::a12::a13::a14::a15::a16::a17::a18::a19::a20::a21::a22::a23::a24::z::r) 0 [b0,b1,b2,b3,b4,b5,b6,b7,b8,b9,b10,b11,b12,b13,b14,b15,b16,b17,b18,b19,b20,b21,b22,b23,b24]) [(1,[s])])=_;rw [k,e];show QbX place (b0::b1::b2::b3::b4::b5::b6::b7::b8::b9::b10::b11::b12::b13::b14::b15::b16::b17::b18::b19::b20::b21::b22::b23::b24::z::r) [(1,[s])]=_;unfold QbX;rw [h'];show (match Nat.ble (25+ [s].length) (b0::b1::b2::b3::b4::b5::b6::b7::b8::b9::b10::b11::b12::b13::b14::b15::b16::b17::b18::b19::b20::b21::b22::b23::b24::z::r).length with|false=>none|true=>QbX place (QaB (b0::b1::b2::b3::b4::b5::b6::b7::b8::b9::b10::b11::b12::b13::b14::b15::b16::b17::b18::b19::b20::b21::b22::b23::b24::z::r) 25 [s]) [])=_;rw [k2];rfl
theorem Qsd:∀ a b,zer (a+b)=zer a++zer b
 | 0,b=>by rw [Nat.zero_add];rfl
 | a+1,b=>by rw [Nat.succ_add];show 0::zer (a+b)=0::(zer a++zer b);rw [Qsd a b]
theorem Qse:∀ n,∀ y∈zer n,y<4294967296
 | 0,y,h=>by cases h
 | n+1,y,h=>by
  rcases List.mem_cons.1 h with rfl|h
  .decide
  .exact Qse n y h
theorem QnA {z l y:List SV} {o:Nat} (ho:o=0) (h:QaB z 0 l=y):QaB z o l=y:=by rw [ho];exact h
def cpT (ws:List Nat):List Nat:=ws++zer (64-ws.length)
theorem Qwq (ws:List Nat) (h:ws.length<=64):QaB (wsv (zer 64)) 0 (wsv ws)=wsv (cpT ws):=by
 have e:wsv (zer 64)=wsv (zer ws.length)++wsv (zer (64-ws.length)):=by
  unfold wsv;rw [<- List.map_append,<- Qsd,show ws.length+(64-ws.length)=64 by omega]
 rw [e,Qe7 (by rw [wsv_length,wsv_length,Qiz])];unfold cpT wsv;rw [List.map_append]
theorem QhS (ws:List Nat) (h:ws.length<=64):(cpT ws).length=64:=by unfold cpT;rw [zla,Qiz];omega
theorem QAL (ws:List Nat) (h:ZL ws):∀ y∈cpT ws,y<4294967296:=fun y hy=>by
 rcases List.mem_append.1 hy with h1|h1
 .exact h y h1
 .exact Qse _ y h1
def QtE (ws:List Nat):Mc:=⟨[0,0,0,0,0,0,0,0,0,0,0,0,0,0,0,0],0,[1,0,0,0,0,0,0,0],cpT ws,⟨#[]⟩,false,0,false,⟨0,0,0,0,0,0,0,⟨#[]⟩⟩,⟨0,0,false,0,false,0⟩,0,0,0,false,false⟩
theorem QxI (ws:List Nat) (h:ws.length<=64) (hr:ZL ws):(QtE ws).ok:=by
 have h0:∀ y∈([0,0,0,0,0,0,0,0,0,0,0,0,0,0,0,0]:List Nat),y<4294967296:=by decide
 have h1:∀ y∈([1,0,0,0,0,0,0,0]:List Nat),y<4294967296:=by decide
 refine ⟨rfl,rfl,h0,h1,(by show (0:Nat)<4294967296;decide),QAL ws hr,?_,⟨by show (0:Nat)<4294967296;decide,by show (0:Nat)<4294967296;decide,by show (0:Nat)<4294967296;decide,by show (0:Nat)<4294967296;decide,by show (0:Nat)<4294967296;decide,Nat.zero_le _,by show (Lit.int .i64 0).wf=true;decide,by show (Lit.int .i64 0).wf=true;decide⟩,⟨by show (0:Nat)<4294967296;decide,by show (0:Nat)<4294967296;decide,by show (0:Nat)<4294967296;decide,by show (0:Nat)<4294967296;decide⟩,⟨by show (0:Nat)<4294967296;decide,by show (0:Nat)<4294967296;decide,by show (0:Nat)<4294967296;decide,by show (0:Nat)<18446744073709551616;decide,Nat.zero_le _⟩⟩;show (cpT ws).length<=1000000;rw [QhS ws h];omega
theorem QxH (ws:List Nat) (n:Nat) (hn:ws.length=n) (h:n<=64):FN 10 [.s (.i 2),.s (.i 0),.s (.sl 0 0 n)] [⟨false,1,wsv ws⟩]
  (. =⟨.tup [.agg ((QtE ws).C 1),.s (.bool true)],[],[⟨true,1,wsv (QtE ws).m⟩]⟩):=by
 have q0:=Qrc 0;have q1:=QxJ 2 (by decide) (by decide);change Fn _ _ _ _ (. =⟨.a (.s (.sl 0 0 64)),[],[⟨true,1,wsv (zer 64)⟩]⟩) at q1;have hcp:=Qwq ws (by omega);have gM:=QhS ws (by omega);have yK:=Qaa ws;have fQ:=Qaa (zer 64);have qA:=Qaa (cpT ws);have ZW:(wsv (zer 64)).length=64:=by rw [wsv_length,Qiz]
 have FS:(wsv ws).length=n*ty23.size:=by rw [wsv_length,hn];show n=n*1;omega
 have hkw:Qas (wsv ws)=true:=Qcr ws;have zG:min n 64=n:=by omega
 have hlw2:(wsv ws).length<=64:=by rw [wsv_length];omega
 unfold QtE;dsimp only [Mc.C,Mc.D,Dk.C,Nk.C];rw [gM];simp only [Qai,zca,zna];unfold Qvz at q0;have h0:((0:Nat):Int)=0:=rfl;have h1:((1:Nat):Int)=1:=rfl;have h4:((4:Nat):Int)=4:=rfl;simp only [h0,h1,h4];clear h0 h1 h4;generalize wsv (zer 64)=Z,wsv (cpT ws)=X2,wsv ws=X1 at *;clear hn gM;refine fnW Tryz.func10 ?_;(repeat' ((conv=>whnf);first|exact zi3|refine zj0 fun hb=>?_|((with_reducible apply Ge.mk (α:=List SV)); . (refine QBj ?_ ?_<;>exact rfl))|((with_reducible apply Vl.mk (α:=Nat)); . with_reducible exact zG)|(apply Sk.mk; . exact QdU X1 FS hkw)|(apply Sd.mk; . refine ⟨rfl,?_⟩;(show 0+X1.length<=Z.length;omega))|((with_reducible apply Vl.mk (α:=List SV)); . (with_reducible refine QnA ?_ hcp);exact rfl)|(refine zpu q0 ?_)|(refine Qae q1 [] [] aRn trivial trivial ⟨rfl,QbK rfl⟩ ?_)|refine zse ?_|refine zbb ?_ ?_))
 all_goals exact Qff
theorem QtF (ws:List Nat) (h:ws.length<=64):Qb0 (QtE ws)=true:=by
 have hl:(QtE ws).m.length=64:=QhS ws h;unfold Qb0;rw [hl];unfold QtE;dsimp only
 have hd:QbM ⟨0,0,0,0,0,0,0,⟨#[]⟩⟩ ((mpg 64:Nat):Int)=true:=by
  unfold QbM;exact zdt ⟨by decide,by decide,by decide,fun _=>⟨rfl,rfl,rfl,by unfold noD;exact beq_self_eq_true _⟩,fun h=>by exact absurd h (by decide)⟩
 exact zdt ⟨by decide,by decide,by decide,by decide,by decide,by decide,by rfl,by rfl,hd,by rfl,by rfl,by decide,by decide⟩
end Go.Proofs.YtflaceijiphfdaaGreat
