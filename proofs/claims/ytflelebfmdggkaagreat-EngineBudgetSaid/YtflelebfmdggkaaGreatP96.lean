import Derived.Test.YtflelebfmdggkaaGreatP46
import Derived.Test.YtflelebfmdggkaaGreatP11
import Derived.Test.YtflelebfmdggkaaGreatP94
set_option linter.unusedSimpArgs false
set_option linter.unusedVariables false
set_option maxHeartbeats 100000000
set_option maxRecDepth 100000
namespace Go.Proofs.YtflelebfmdggkaaGreat
open Go Go.RowKit
theorem Qfo (xs:List Nat) (n a:Nat) (hn:n<4294967296) (ha:a<4294967296):FN 131 [.s (.sl 0 0 n),.s (.u a),.s (.i 1)] [⟨false,1,wsv xs⟩] (· =⟨.a (.s (.bool (ld1 n a))),[],[]⟩):=by
 have hm:=QaU n;have hp:=Qck xs n hn;have gL:=Qaa xs;unfold ld1;generalize mpg n=P,wsv xs=XX at *;refine fnW Tryz.func131 ?_;(repeat' ((conv=>whnf);first|exact zi0|(refine zj0 ?_;intro hb)|(refine QaD hp ?_)|refine zst ?_|refine zbb ?_ ?_));all_goals (conv=>whnf)
 all_goals
  refine QbV rfl gL rfl ?_;simp only [Qbc];congr 3;refine Eq.symm ?_
  first
   | (exact decide_eq_false (by omega))
   | (rw [Bool.eq_iff_iff,decide_eq_true_eq,decide_eq_true_eq];omega)
theorem Qkh (xs:List Nat) (n a:Nat) (sz:Int) (fZ:sz=1∨sz=4) (hn:n<4294967296) (ha:a<4294967296):FN 131 [.s (.sl 0 0 n),.s (.u a),.s (.i sz)] [⟨false,1,wsv xs⟩] (· =⟨.a (.s (.bool (acB sz n a))),[],[]⟩):=by
 rcases fZ with rfl|rfl
 ·exact Qfo xs n a hn ha
 ·exact QcZ xs n a hn ha
theorem QeZ (xs:List Nat) (n a:Nat) (hn:n<4294967296) (ha:a<4294967296) (hl:xs.length=n) (qY:ld4 n a=true):FN 77 [.s (.sl 0 0 n),.s (.u a),.s (.i 4)] [⟨false,1,wsv xs⟩] (· =⟨.tup [.s (.u (xs.getD (a / 4) 0:Nat)),.s (.bool true)],[],[]⟩):=by
 have hw:=QcZ xs n a hn ha;rw [qY] at hw;have yU:=Qd5 qY;have hg:=Qa0 xs (a / 4) (by omega);refine fnW Tryz.func77 ?_;(repeat' ((conv=>whnf);first|exact zi0|(refine zj0 ?_;intro hb)|(refine Qae (f:=131) hw [⟨0,0⟩] [(0,⟨false,1,wsv xs⟩)] rfl ⟨rfl,trivial⟩ ⟨rfl,Qar (Qaa _),trivial⟩ ⟨rfl,Qbq⟩ ?_)|refine Qeo ?_|refine QvS ?_|refine Qz8 ?_|refine zs0 ?_|refine zbb ?_ ?_));all_goals (conv=>whnf)
 all_goals first|exact QbV rfl (Qaa _) rfl rfl
theorem QIF (w a:Nat) (hw:w<4294967296):bits .and .u32 ((w:Int) / 2^min (((a%4*8:Nat):Int)).toNat IntKind.u32.bits) 255=((byN w a:Nat):Int):=Qez w (a%4*8) 8 hw (by omega) (by omega)
theorem at8 (a:Nat):IntKind.u32.wrap (8*((a%4:Nat):Int))=((a%4*8:Nat):Int):=by rw [QeS (by omega) (by omega)];omega
theorem QIS (w:Int) (l:Nat):w / 2^min ((l:Nat):Int).toNat IntKind.u32.bits=w / 2^min ((l:Nat):Int).toNat IntKind.u32.bits:=rfl
theorem Qm7 (xs:List Nat) (n a:Nat) (hn:n<4294967296) (ha:a<4294967296) (hl:xs.length=n) (hx:∀ x∈xs,x<4294967296) (qY:ld1 n a=true):FN 77 [.s (.sl 0 0 n),.s (.u a),.s (.i 1)] [⟨false,1,wsv xs⟩] (· =⟨.tup [.s (.u (byN (xs.getD (a / 4) 0) a:Nat)),.s (.bool true)],[],[]⟩):=by
 have hw:=Qfo xs n a hn ha;rw [qY] at hw;have yU:=QhC qY;have hg:=Qa0 xs (a / 4) (by omega);have vU:=QIF (xs.getD (a / 4) 0) a (QA8 hx _);have h8:=at8 a;have JG:=QHv a;generalize xs.getD (a / 4) 0=W at *;have hsk:=QIS (W:Int) (a%4*8);generalize byN W a=B,a%4*8=Q at *;generalize a%4=R4 at *;refine fnW Tryz.func77 ?_;(repeat' ((conv=>whnf);first|exact zi0|(refine zj0 ?_;intro hb)|(refine Qae (f:=131) hw [⟨0,0⟩] [(0,⟨false,1,wsv xs⟩)] rfl ⟨rfl,trivial⟩ ⟨rfl,Qar (Qaa _),trivial⟩ ⟨rfl,Qbq⟩ ?_)|refine Qeo ?_|refine QvS ?_|refine Qz8 ?_|(with_reducible first|refine zv JG ?_|refine zv h8 ?_|refine zv hsk ?_|refine zv vU ?_)|refine zs0 ?_|refine zbb ?_ ?_));all_goals (conv=>whnf)
 all_goals first|exact QbV rfl (Qaa _) rfl rfl
theorem Quq (xs:List Nat) (n a v:Nat) (ha:a<4294967296) (hl:xs.length=n) (qY:ld4 n a=true):FN 164 [.s (.sl 0 0 n),.s (.u a),.s (.i 4),.s (.u v)] [⟨true,1,wsv xs⟩] (· =⟨.tup [],[(0,some ⟨true,1,wsv (xs.set (a / 4) v)⟩)],[]⟩):=by
 have yU:=Qd5 qY;have fC:=QbB xs (a / 4) v (by omega);have uP:(wsv xs).length=n:=by simp [hl]
 have KU:Qau (wsv (xs.set (a / 4) v))=true:=Qaa _;generalize wsv (xs.set (a / 4) v)=X2,wsv xs=M at *;refine fnW Tryz.func164 ?_;(repeat' ((conv=>whnf);first|exact zi0|(refine zj0 ?_;intro hb)|refine Qeo ?_|(apply Sd.mk; · refine ⟨rfl,rfl,rfl,?_⟩;show _≤M.length;simp;omega)|refine QvS ?_|refine zq7 ?_|refine zs0 ?_|refine zbb ?_ ?_))
 all_goals exact Qb8
theorem QsL (xs:List Nat) (n a v:Nat) (ha:a<4294967296) (hl:xs.length=n) (qY:ld1 n a=true):FN 164 [.s (.sl 0 0 n),.s (.u a),.s (.i 1),.s (.u v)] [⟨true,1,wsv xs⟩] (· =⟨.tup [],[(0,some ⟨true,1,wsv (Qnv xs a v)⟩)],[]⟩):=by
 have yU:=QhC qY;have hg:=Qa0 xs (a / 4) (by omega);have fC:=QbB xs (a / 4) (sfN (xs.getD (a / 4) 0) (a%4*8) v) (by omega);change QaC _ _ _=wsv (Qnv xs a v) at fC;have GM:=(Qf0 (xs.getD (a / 4) 0) (a%4*8) v).symm;unfold sfI at GM;have e1:IntKind.u32.wrap (255*2^min ((a%4*8:Nat):Int).toNat IntKind.u32.bits)=IntKind.u32.wrap (255*2^min ((a%4*8:Nat):Int).toNat IntKind.u32.bits):=rfl;have e2:IntKind.u32.wrap (bits .and .u32 (v:Int) 255*2^min ((a%4*8:Nat):Int).toNat IntKind.u32.bits)=IntKind.u32.wrap (bits .and .u32 (v:Int) 255*2^min ((a%4*8:Nat):Int).toNat IntKind.u32.bits):=rfl;have uP:(wsv xs).length=n:=by simp [hl]
 have KU:Qau (wsv (Qnv xs a v))=true:=Qaa _;have h8:=at8 a;have JG:=QHv a;generalize sfN (xs.getD (a / 4) 0) (a%4*8) v=V,wsv (Qnv xs a v)=X2 at *;generalize xs.getD (a / 4) 0=W,wsv xs=M,a%4*8=Q at *;refine fnW Tryz.func164 ?_;(repeat' ((conv=>whnf);first|exact zi0|(refine zj0 ?_;intro hb)|refine Qeo ?_|(apply Sd.mk; · refine ⟨rfl,rfl,rfl,?_⟩;show _≤M.length;simp;omega)|refine QvS ?_|refine Qz8 ?_|(with_reducible first|refine zv JG ?_|refine zv h8 ?_|refine zv e1 ?_|refine zv e2 ?_|refine zv GM ?_)|refine zq7 ?_|refine zs0 ?_|refine zbb ?_ ?_))
 all_goals exact Qb8
theorem QjF (o:Int) (a b:Nat) (ha:a<4294967296) (fY:b<4294967296):FN 163 [.s (.i o),.s (.u a),.s (.u b)] [] (· =⟨.a (.s (.bool (Qde o a b))),[],[]⟩):=by
 refine fnW Tryz.func163 ?_;exact QyK
theorem QJo (x:Nat) (hx:x<4294967296):bits .and .u32 (x:Int) (256-1)=((x%256:Nat):Int):=Qbm x 8 hx (by omega)
theorem QJn (x:Nat) (hx:x<256):(x:Int) / 2^min ((8:Int)-1).toNat IntKind.u32.bits=((x / 128:Nat):Int):=by
 rw [show (2:Int)^min ((8:Int)-1).toNat IntKind.u32.bits=128 from rfl];omega
theorem QIK (x:Nat) (hx:x<256):bits .or .u32 (x:Int) 4294967040=((x+4294967040:Nat):Int):=by
 have:=QvM x 4294967040 (by omega) (by omega)
 have e:x ||| 4294967040=x+4294967040:=by
  rw [Nat.or_comm,show 4294967040=2^8*16777215 from rfl,← Nat.two_pow_add_eq_or_of_lt (i:=8) (show x<2^8 by omega)];omega
 rw [e] at this;exact this
theorem Qy0 (x:Nat) (hx:x<4294967296):FN 165 [.s (.u x),.s (.i 8)] [] (· =⟨.a (.s (.u (sx8 x:Nat))),[],[]⟩):=by
 have r1:=QJo x hx;have r2:=QJn (x%256) (by omega);have r3:=QIK (x%256) (by omega);have m1:IntKind.u32.wrap (1*2^min (Int.toNat 8) IntKind.u32.bits)=256:=rfl;have m2:IntKind.u32.wrap (4294967295*2^min (Int.toNat 8) IntKind.u32.bits)=4294967040:=rfl;refine fnW Tryz.func165 ?_;(repeat' ((conv=>whnf);first|exact zi0|(refine zj0 ?_;intro hb)|(with_reducible first|refine zv r1 ?_|refine zv r2 ?_|refine zv r3 ?_|refine zv m1 ?_|refine zv m2 ?_)|refine zs0 ?_|refine zbb ?_ ?_));all_goals (conv=>whnf)
 all_goals
  refine Qam rfl ?_;simp only [Qbc,sx8]
  first
   | (rw [zP (by omega)];done)
   | (rw [zN (by omega)];done)
theorem Qgw (x:List Nat) (pc:Nat) (c:List Nat) (r v:Nat) (hx:x.length=16) (hc:c.length=8) (hr:r<16):FN 50 [.agg (Qay x pc c),.s (.i r),.s (.u v)] [] (· =⟨.a (.agg (Qay (QaE x r v) pc c)),[],[]⟩):=by
 have hw:=Qh3 x pc c r v hx hr;have gR:=Qap (x) (pc) (c) hx hc;have jI:=Qal (x) (pc) (c);have qR:=Qag (x) (pc) (c);have qW:=Qai gR;have gpCC:=QaB (x) (pc) (c) hx;have qO:=Qap (x.set r v) (pc) (c) (by simpa using hx) hc;have uL:=Qal (x.set r v) (pc) (c);have jQ:=Qag (x.set r v) (pc) (c);have wL:=Qai qO;have gpC2:=QaB (x.set r v) (pc) (c) (by simpa using hx);unfold QaE
 by_cases h:r=0
 ·rw [zP h]
  subst h;generalize Qay (x) (pc) (c)=CC at *;refine fnW Tryz.func50 ?_;(repeat' ((conv=>whnf);first|exact zi2|(refine zj0 ?_;intro hb)|(apply Sd.mk; · exact ⟨gR,qR,rfl,(by show 0+CC.length≤25;omega)⟩)|((with_reducible apply Vl.mk (α:=List SV)); · first|exact qW _ (by first|rfl|assumption))|(apply Sg.mk; · first|exact Qa8 CC gR)|refine zse ?_|refine zbb ?_ ?_))
  all_goals exact zF_
 ·rw [zN h]
  generalize Qay (x.set r v) (pc) (c)=C2,Qay (x) (pc) (c)=CC at *;refine fnW Tryz.func50 ?_;(repeat' ((conv=>whnf);first|exact zi2|(refine zj0 ?_;intro hb)|(apply Sd.mk; · first|exact ⟨qO,jQ,rfl,(by show 0+C2.length≤25;omega)⟩|(show (0:Int)≤r∧(r:Int)<16;omega)|(refine ⟨rfl,rfl,rfl,?_⟩;show r+1≤CC.length;omega))|((with_reducible apply Vl.mk (α:=List SV)); · first|exact hw|exact wL _ (by first|rfl|assumption))|(apply Sg.mk; · exact Qa8 C2 qO)|refine zse ?_|refine zbb ?_ ?_))
  all_goals exact zF_
theorem QB3 (a:Nat) (ha:a<4294967296):bits .and .u32 (a:Int) 5=((a%2+a / 4%2*4:Nat):Int):=by
 rw [show ((5:Int))=((5:Nat):Int) from rfl,QcI a 5 ha (by omega)];obtain ⟨h,l,hl,rfl⟩:=Qhk a;rw [Qgi h l 5 hl (by decide)];have e:∀ l:Nat,l<32→l &&& 5=l%2+l / 4%2*4:=by decide
 rw [e l hl];congr 1;omega
theorem QoK (x:List Nat) (pc:Nat) (c:List Nat) (hx:x.length=16) (hc:c.length=8) (hs:c.getD 0 0<4294967296):FN 157 [.agg (Qay x pc c)] [] (· =⟨.a (.s (.bool (Qdc (c.getD 0 0)))),[],[]⟩):=by
 have g0:=Qdu x pc c 0 hx hc (by decide);have b5:=QB3 (c.getD 0 0) hs;have gR:=Qap (x) (pc) (c) hx hc;have jI:=Qal (x) (pc) (c);have qR:=Qag (x) (pc) (c);have qW:=Qai gR;have gpCC:=QaB (x) (pc) (c) hx;generalize c.getD 0 0=S,Qay (x) (pc) (c)=CC at *
 obtain ⟨T,hT,hP⟩:∃ T:Nat,S%2+S / 4%2*4=T∧(((T:Nat):Int)==4)=Qdc S:=by
  refine ⟨_,rfl,?_⟩;unfold Qdc;rw [Bool.eq_iff_iff,beq_iff_eq,decide_eq_true_eq];omega
 rw [hT] at b5;rw [← hP];refine fnW Tryz.func157 ?_;(repeat' ((conv=>whnf);first|exact zi0|(refine zj0 ?_;intro hb)|(with_reducible refine zv b5 ?_)|refine QlY ?_|refine zst ?_|refine zbb ?_ ?_))
 all_goals exact zf_
theorem Qgj (x:List Nat) (pc:Nat) (c:List Nat) (xs:List Nat) (n va:Nat) (sz ac:Int) (hx:x.length=16) (hc:c.length=8) (gK:∀ y∈c,y<4294967296) (hl:xs.length=n) (hY:∀ y∈xs,y<4294967296) (hn:n<4294967296) (gX:va<4294967296) :
  FN 89 [.agg (Qay x pc c),.s (.sl 0 0 n),.s (.u va),.s (.i sz),.s (.i ac)] [⟨true,1,wsv xs⟩]
   (· =⟨.tup [.s (.u (rsA xs n (c.getD 0 0) (c.getD 6 0) va sz ac:Nat)),.s (.i (rsK xs n (c.getD 0 0) (c.getD 6 0) va sz ac))],[(0,some ⟨true,1,wsv (rsM xs n (c.getD 0 0) (c.getD 6 0) va sz ac)⟩)],[]⟩):=by
 have hs:=Qab gK 0;have hr:=Qab gK 6;have hk:=QoK x pc c hx hc hs;have g0:=Qdu x pc c 0 hx hc (by decide);have g6:=Qdu x pc c 6 hx hc (by decide);have UK:=Qap x pc c hx hc;have hCs:=Qal x pc c;have hCk:=Qag x pc c;have zK:=QjR ac;have vK:=Qjw ac;have hz0:=Qai UK;generalize c.getD 0 0=S,c.getD 6 0=R,Qay x pc c=C at *;have hw:=Qp9 xs n R va ac hl hn hY hr gX;have gL:=Qaa xs;clear gK hx hc
 by_cases wD:QdQ ac=true∧szB sz=true
 case neg =>
  have e1:rsO xs n S R va sz ac=false:=by
   unfold rsO
   cases h:QdQ ac with
   | false=>rfl
   | true =>
    cases h2:szB sz with
    | false=>rfl
    | true=>exact absurd ⟨h,h2⟩ wD
  have e2:QdQ ac=false∨szB sz=false:=by
   cases h:QdQ ac with
   | false=>exact .inl rfl
   | true =>
    cases h2:szB sz with
    | false=>exact .inr rfl
    | true=>exact absurd ⟨h,h2⟩ wD
  rw [show rsA xs n S R va sz ac=0 by unfold rsA;rw [e1];rfl,show rsM xs n S R va sz ac=xs by unfold rsM;rw [e1];exact zN (fun h=>by cases h.1),show rsK xs n S R va sz ac=5 by unfold rsK;rw [e1,zN (by decide),zP e2]];have hz:szB sz=false→sz≠1∧sz≠4:=fun h=>by unfold szB at h;simpa using h
  generalize QdQ ac=kb,wsv xs=XX at *
  cases kb with
  | false =>
   clear hw hz;refine fnW Tryz.func89 ?_;(repeat' ((conv=>whnf);first|exact zi2|(refine zj0 ?_;intro hb)|(refine zpu vK ?_)|refine zse ?_|refine zbb ?_ ?_));all_goals (conv=>whnf)
   all_goals first|(exact Qb8)
  | true =>
   obtain ⟨z1,z2⟩:=hz (by rcases e2 with h|h;cases h;exact h);clear hw;refine fnW Tryz.func89 ?_;(repeat' ((conv=>whnf);first|exact zi2|(refine zj0 ?_;intro hb)|(refine zpu vK ?_)|refine zse ?_|refine zbb ?_ ?_))
   all_goals exact Qrv
 obtain ⟨k1,k2⟩:=wD;rw [k1] at vK;have fZ:sz=1∨sz=4:=by unfold szB at k2;simpa using k2
 by_cases gZ:(va:Int)%sz=0
 case neg =>
  have e1:rsO xs n S R va sz ac=false:=by unfold rsO;rw [decide_eq_false gZ,Bool.and_false];rfl
  rw [show rsA xs n S R va sz ac=0 by unfold rsA;rw [e1];rfl,show rsM xs n S R va sz ac=xs by unfold rsM;rw [e1];exact zN (fun h=>by cases h.1),show rsK xs n S R va sz ac=3 by unfold rsK;rw [e1,zN (by decide),zN (by rw [k1,k2];simp),zN gZ]];obtain rfl:sz=4:=by rcases fZ with rfl|rfl;omega;rfl
  have m1:Int.tmod (va:Int) 4=((va%4:Nat):Int):=QuW;have m2:va%4≠0:=by omega
  generalize va%4=va4,wsv xs=XX at *;clear hw;refine fnW Tryz.func89 ?_;(repeat' ((conv=>whnf);first|exact zi2|(refine zj0 ?_;intro hb)|(with_reducible refine zv m1 ?_)|(refine zpu vK ?_)|refine zse ?_|refine zbb ?_ ?_))
  all_goals exact Qrv
 have qJ:=Qkh xs n va sz fZ hn gX;have m0:Int.tmod (va:Int) sz=0:=by rw [Int.tmod_eq_emod_of_nonneg (by omega)];exact gZ
 cases qF:Qdc S with
 | true =>
  obtain ⟨p1,p2⟩:S%2=0∧S / 4%2=1:=by unfold Qdc at qF;simpa using qF
  rw [qF] at hk
  cases hok:Qbp xs n R va ac with
  | false =>
   have e1:rsO xs n S R va sz ac=false:=by unfold rsO;rw [qF,hok];simp
   rw [show rsA xs n S R va sz ac=0 by unfold rsA;rw [e1];rfl,show rsM xs n S R va sz ac=xs by unfold rsM;rw [e1];exact zN (fun h=>by cases h.1),show rsK xs n S R va sz ac=Qcw ac by unfold rsK;rw [e1,zN (by decide),zN (by rw [k1,k2];simp),zP gZ]];unfold Qfw at hw;rw [hok,zN (by decide)] at hw;have KP:Qcw ac≠0:=by unfold Qcw;split;omega;split<;>omega
   generalize Qcw ac=cz,wsv xs=XX at *;rcases fZ with rfl|rfl
   all_goals
    refine fnW Tryz.func89 ?_;(repeat' ((conv=>whnf);first|exact zi2|(refine zj0 ?_;intro hb)|(with_reducible refine zv m0 ?_)|((with_reducible apply Ge.mk (α:=SV)); · exact g6)|refine Qz3 ?_|(refine zpu hk ?_)|(refine QaD hw ?_)|(refine zpu vK ?_)|refine zse ?_|refine zbb ?_ ?_));all_goals (conv=>whnf)
    all_goals first|(exact Qb8)
  | true =>
   have e1:rsO xs n S R va sz ac=true:=by unfold rsO;rw [qF,hok,k1,k2,decide_eq_true gZ];rfl
   obtain ⟨l1,l2,l3⟩:=QvW hok hn;have UG:=Qt9 xs n (Qba R va) ac hl hn hY l2 l1;rw [show rsA xs n S R va sz ac=frW (QaT xs R va)*128+va%128 by unfold rsA;rw [e1,zP rfl,qF,zP rfl],show rsM xs n S R va sz ac=xs.set (Qba R va / 4) (QbK (xs.getD (Qba R va / 4) 0) ac) by unfold rsM;rw [e1,qF];exact zP ⟨rfl,rfl⟩,show rsK xs n S R va sz ac=0 by unfold rsK;rw [e1,zP rfl]];unfold Qfw at hw;rw [hok,zP rfl] at hw;have gY:=Qaa (xs.set (Qba R va / 4) (QbK (xs.getD (Qba R va / 4) 0) ac));generalize wsv (xs.set (Qba R va / 4) (QbK (xs.getD (Qba R va / 4) 0) ac))=X2 at *;generalize Qba R va=E,frW (QaT xs R va)*128+va%128=AA,Qcw ac=cz,wsv xs=XX at *;rcases fZ with rfl|rfl
   all_goals
    refine fnW Tryz.func89 ?_;(repeat' ((conv=>whnf);first|exact zi2|(refine zj0 ?_;intro hb)|(with_reducible refine zv m0 ?_)|((with_reducible apply Ge.mk (α:=SV)); · exact g6)|refine Qz3 ?_|(refine zpu hk ?_)|(refine QaD hw ?_)|(refine zpu vK ?_)|(refine Qg3 UG ?_)|refine zse ?_|refine zbb ?_ ?_));all_goals (conv=>whnf)
    all_goals first|(exact Qb8)
 | false =>
  have ZK:S%2=1∨(S%2=0∧S / 4%2=0):=by unfold Qdc at qF;simp at qF;omega
  have eM:rsM xs n S R va sz ac=xs:=by unfold rsM;rw [qF];exact zN (fun h=>by cases h.2)
  have eO:rsO xs n S R va sz ac=acB sz n va:=by unfold rsO;rw [qF,k1,k2,decide_eq_true gZ];simp
  have eA:rsA xs n S R va sz ac=if acB sz n va=true then va else 0:=by unfold rsA;rw [eO,qF];simp
  have eK:rsK xs n S R va sz ac=if acB sz n va=true then 0 else Qcw ac:=QDa
  rw [eM,eA,eK];clear eM eO eA eK hw;generalize Qcw ac=cz,acB sz n va=ok,wsv xs=XX at *;rw [qF] at hk;cases ok<;>rcases fZ with rfl|rfl
  all_goals
   refine fnW Tryz.func89 ?_;(repeat' ((conv=>whnf);first|exact zi2|(refine zj0 ?_;intro hb)|(with_reducible refine zv m0 ?_)|refine Qz3 ?_|(refine zpu zK ?_)|(refine zpu hk ?_)|(refine QaD qJ ?_)|(refine zpu vK ?_)|refine zse ?_|refine zbb ?_ ?_))
   all_goals exact Qrv
theorem Qm6 (x:List Nat) (pc:Nat) (c:List Nat) (o:Int) (A B C:Nat) (m:Int) (hx:x.length=16) (hc:c.length=8) (hY:∀ y∈x,y<4294967296) (gA:∀ y∈c,y<4294967296) (gQ:pc<4294967296) (hA:A<16) (hB:B<16) (hC:C<16) (hm:o=58→0≤m∧m<8) (gB: -32768≤m∧m≤65535) (ho:(40≤o∧o≤45)∧Qde o (x.getD A 0) (x.getD B 0)=true) :
  FN 92 [.agg (Qay x pc c),.agg (iv o A B C m)] [] (· =⟨.a (.agg (Qay (exX x pc c o A B C m) (exP x pc c o A B m) (exC x pc c o A m))),[],[]⟩):=by
 have eX:exX x pc c o A B C m=x:=Qg6;have eP:exP x pc c o A B m=w32 ((pc:Int)+w32 (4*(w32 m:Nat))):=Qxf;have eC:exC x pc c o A m=c:=Qci;rw [eX,eP,eC];have rA:=Qaw x pc c A hx hA;have rB:=Qaw x pc c B hx hB;have rC:=Qaw x pc c C hx hC;have qm:IntKind.u32.wrap m=((w32 m:Nat):Int):=Qat m;have q4:IntKind.u32.wrap ((pc:Int)+4)=((w32 ((pc:Int)+4):Nat):Int):=Qat _;have q4m:IntKind.u32.wrap (4*((w32 m:Nat):Int))=((w32 (4*(w32 m:Nat)):Nat):Int):=Qat _;have xA:=Qab hY A;have xB:=Qab hY B;have lm:=QaH m;have gR:=Qap (x) (pc) (c) hx hc;have jI:=Qal (x) (pc) (c);have qR:=Qag (x) (pc) (c);have qW:=Qai gR;have gpCC:=QaB (x) (pc) (c) hx;obtain ⟨PP,qV⟩:∃ PP,w32 ((pc:Int)+w32 (4*(w32 m:Nat)))=PP:=⟨_,rfl⟩;rw [qV];have qT:IntKind.u32.wrap ((pc:Int)+((w32 (4*(w32 m:Nat)):Nat):Int))=(PP:Int):=by rw [Qat,qV]
 have jS:=QjF o (x.getD A 0) (x.getD B 0) xA xB;rw [ho.2] at jS;replace ho:=ho.1;have jB:=QaR x pc c PP hx;have gC:=Qap (x) (PP) (c) hx hc;have qA:=Qal (x) (PP) (c);have gS:=Qag (x) (PP) (c);have fF:=Qai gC;have gpC3:=QaB (x) (PP) (c) hx;generalize Qay (x) (PP) (c)=C3 at *;clear eX eP eC;generalize x.getD A 0=vA,x.getD B 0=vB,x.getD C 0=vC,Qay (x) (pc) (c)=CC,w32 (4*((w32 m:Nat):Int))=m4 at *;generalize w32 m=mm,w32 ((pc:Int)+4)=p4 at *;refine fnW Tryz.func92 ?_;(repeat' ((conv=>whnf);first|exact zi2|(refine zj0 ?_;intro hb)|refine QEg ?_|refine zq9 ?_|refine QEI ?_|(apply Sg.mk; · exact Qa8 C3 gC)|refine QEQ ?_|(refine zpu jS ?_)|refine zse ?_|refine zbb ?_ ?_))
 all_goals exact zF_
theorem Qlu (x:List Nat) (pc:Nat) (c:List Nat) (o:Int) (A B C:Nat) (m:Int) (hx:x.length=16) (hc:c.length=8) (hY:∀ y∈x,y<4294967296) (gA:∀ y∈c,y<4294967296) (gQ:pc<4294967296) (hA:A<16) (hB:B<16) (hC:C<16) (hm:o=58→0≤m∧m<8) (gB: -32768≤m∧m≤65535) (ho:(40≤o∧o≤45)∧Qde o (x.getD A 0) (x.getD B 0)=false) :
  FN 92 [.agg (Qay x pc c),.agg (iv o A B C m)] [] (· =⟨.a (.agg (Qay (exX x pc c o A B C m) (exP x pc c o A B m) (exC x pc c o A m))),[],[]⟩):=by
 have eX:exX x pc c o A B C m=x:=Qg6;have eP:exP x pc c o A B m=w32 ((pc:Int)+4):=Qxf;have eC:exC x pc c o A m=c:=Qci;rw [eX,eP,eC];have rA:=Qaw x pc c A hx hA;have rB:=Qaw x pc c B hx hB;have rC:=Qaw x pc c C hx hC;have qm:IntKind.u32.wrap m=((w32 m:Nat):Int):=Qat m;have q4:IntKind.u32.wrap ((pc:Int)+4)=((w32 ((pc:Int)+4):Nat):Int):=Qat _;have q4m:IntKind.u32.wrap (4*((w32 m:Nat):Int))=((w32 (4*(w32 m:Nat)):Nat):Int):=Qat _;have xA:=Qab hY A;have xB:=Qab hY B;have lm:=QaH m;have gR:=Qap (x) (pc) (c) hx hc;have jI:=Qal (x) (pc) (c);have qR:=Qag (x) (pc) (c);have qW:=Qai gR;have gpCC:=QaB (x) (pc) (c) hx;obtain ⟨PP,qV⟩:∃ PP,w32 ((pc:Int)+4)=PP:=⟨_,rfl⟩;rw [qV];rw [qV] at q4;have jS:=QjF o (x.getD A 0) (x.getD B 0) xA xB;rw [ho.2] at jS;replace ho:=ho.1;have jB:=QaR x pc c PP hx;have gC:=Qap (x) (PP) (c) hx hc;have qA:=Qal (x) (PP) (c);have gS:=Qag (x) (PP) (c);have fF:=Qai gC;have gpC3:=QaB (x) (PP) (c) hx;generalize Qay (x) (PP) (c)=C3 at *;clear eX eP eC;generalize x.getD A 0=vA,x.getD B 0=vB,x.getD C 0=vC,Qay (x) (pc) (c)=CC,w32 (4*((w32 m:Nat):Int))=m4 at *;generalize w32 m=mm,w32 ((pc:Int)+4)=p4 at *;refine fnW Tryz.func92 ?_;(repeat' ((conv=>whnf);first|exact zi2|(refine zj0 ?_;intro hb)|(with_reducible refine zv q4 ?_)|refine zq9 ?_|refine QEI ?_|(apply Sg.mk; · exact Qa8 C3 gC)|refine QEQ ?_|(refine zpu jS ?_)|refine zse ?_|refine zbb ?_ ?_))
 all_goals exact zF_
theorem QAq (x:List Nat) (pc:Nat) (c:List Nat) (o:Int) (A B C:Nat) (m:Int) (hx:x.length=16) (hc:c.length=8) (hY:∀ y∈x,y<4294967296) (gA:∀ y∈c,y<4294967296) (gQ:pc<4294967296) (hA:A<16) (hB:B<16) (hC:C<16) (hm:o=58→0≤m∧m<8) (gB: -32768≤m∧m≤65535) (ho:o=48) :
  FN 92 [.agg (Qay x pc c),.agg (iv o A B C m)] [] (· =⟨.a (.agg (Qay (exX x pc c o A B C m) (exP x pc c o A B m) (exC x pc c o A m))),[],[]⟩):=by
 have eX:exX x pc c o A B C m=QaE x A (w32 ((pc:Int)+4)):=QFZ;have eP:exP x pc c o A B m=w32 ((pc:Int)+w32 (4*(w32 m:Nat))):=by unfold exP;rw [zN (by omega),zP (by omega)]
 have eC:exC x pc c o A m=c:=Qci;rw [eX,eP,eC];have rA:=Qaw x pc c A hx hA;have rB:=Qaw x pc c B hx hB;have rC:=Qaw x pc c C hx hC;have qm:IntKind.u32.wrap m=((w32 m:Nat):Int):=Qat m;have q4:IntKind.u32.wrap ((pc:Int)+4)=((w32 ((pc:Int)+4):Nat):Int):=Qat _;have q4m:IntKind.u32.wrap (4*((w32 m:Nat):Int))=((w32 (4*(w32 m:Nat)):Nat):Int):=Qat _;have xA:=Qab hY A;have xB:=Qab hY B;have lm:=QaH m;have gR:=Qap (x) (pc) (c) hx hc;have jI:=Qal (x) (pc) (c);have qR:=Qag (x) (pc) (c);have qW:=Qai gR;have gpCC:=QaB (x) (pc) (c) hx;obtain ⟨V,hV⟩:∃ V,w32 ((pc:Int)+4)=V:=⟨_,rfl⟩;obtain ⟨PP,qV⟩:∃ PP,w32 ((pc:Int)+w32 (4*(w32 m:Nat)))=PP:=⟨_,rfl⟩;rw [hV,qV];rw [hV] at q4;have qT:IntKind.u32.wrap ((pc:Int)+((w32 (4*(w32 m:Nat)):Nat):Int))=(PP:Int):=by rw [Qat,qV]
 exact QHY
theorem QzK (x:List Nat) (pc:Nat) (c:List Nat) (o:Int) (A B C:Nat) (m:Int) (hx:x.length=16) (hc:c.length=8) (hY:∀ y∈x,y<4294967296) (gA:∀ y∈c,y<4294967296) (gQ:pc<4294967296) (hA:A<16) (hB:B<16) (hC:C<16) (hm:o=58→0≤m∧m<8) (gB: -32768≤m∧m≤65535) (ho:o=49) :
  FN 92 [.agg (Qay x pc c),.agg (iv o A B C m)] [] (· =⟨.a (.agg (Qay (exX x pc c o A B C m) (exP x pc c o A B m) (exC x pc c o A m))),[],[]⟩):=by
 have eX:exX x pc c o A B C m=QaE x A (w32 ((pc:Int)+4)):=QFZ;have eP:exP x pc c o A B m=w32 ((x.getD B 0:Nat)+(w32 m:Nat)):=by unfold exP;rw [zN (by omega),zN (by omega),zP (by omega)]
 have eC:exC x pc c o A m=c:=Qci;rw [eX,eP,eC];have rA:=Qaw x pc c A hx hA;have rB:=Qaw x pc c B hx hB;have rC:=Qaw x pc c C hx hC;have qm:IntKind.u32.wrap m=((w32 m:Nat):Int):=Qat m;have q4:IntKind.u32.wrap ((pc:Int)+4)=((w32 ((pc:Int)+4):Nat):Int):=Qat _;have q4m:IntKind.u32.wrap (4*((w32 m:Nat):Int))=((w32 (4*(w32 m:Nat)):Nat):Int):=Qat _;have xA:=Qab hY A;have xB:=Qab hY B;have lm:=QaH m;have gR:=Qap (x) (pc) (c) hx hc;have jI:=Qal (x) (pc) (c);have qR:=Qag (x) (pc) (c);have qW:=Qai gR;have gpCC:=QaB (x) (pc) (c) hx;obtain ⟨V,hV⟩:∃ V,w32 ((pc:Int)+4)=V:=⟨_,rfl⟩;obtain ⟨PP,qV⟩:∃ PP,w32 ((x.getD B 0:Nat)+(w32 m:Nat))=PP:=⟨_,rfl⟩;rw [hV,qV];rw [hV] at q4;have qT:IntKind.u32.wrap (((x.getD B 0:Nat):Int)+((w32 m:Nat):Int))=(PP:Int):=by rw [Qat,qV]
 exact QHY
theorem QtY (x:List Nat) (pc:Nat) (c:List Nat) (o:Int) (A B C:Nat) (m:Int) (hx:x.length=16) (hc:c.length=8) (hY:∀ y∈x,y<4294967296) (gA:∀ y∈c,y<4294967296) (gQ:pc<4294967296) (hA:A<16) (hB:B<16) (hC:C<16) (hm:o=58→0≤m∧m<8) (gB: -32768≤m∧m≤65535) (ho:o=56) :
  FN 91 [.agg (Qay x pc c),.agg (iv o A B C m)] [] (· =⟨.tup [.agg (Qay (exX x pc c o A B C m) (exP x pc c o A B m) (exC x pc c o A m)),.agg (exE x o A m)],[],[]⟩):=by
 have eX:exX x pc c o A B C m=x:=Qg6;have eP:exP x pc c o A B m=c.getD 1 0:=QuM;have eC:exC x pc c o A m=trL pc c 7 0:=by unfold exC;rw [zP (by omega)]
 have eE:exE x o A m= [.i 0,.i 0,.i 0,.u (0:Nat)]:=Qkd;rw [eX,eP,eC,eE];have rA:=Qaw x pc c A hx hA;have rB:=Qaw x pc c B hx hB;have rC:=Qaw x pc c C hx hC;have qm:IntKind.u32.wrap m=((w32 m:Nat):Int):=Qat m;have q4:IntKind.u32.wrap ((pc:Int)+4)=((w32 ((pc:Int)+4):Nat):Int):=Qat _;have q4m:IntKind.u32.wrap (4*((w32 m:Nat):Int))=((w32 (4*(w32 m:Nat)):Nat):Int):=Qat _;have xA:=Qab hY A;have xB:=Qab hY B;have lm:=QaH m;have gR:=Qap (x) (pc) (c) hx hc;have jI:=Qal (x) (pc) (c);have qR:=Qag (x) (pc) (c);have qW:=Qai gR;have gpCC:=QaB (x) (pc) (c) hx;have fW:=Qc0 x pc c 7 0 hx hc gA;rw [Qbo] at fW;have gC:=Qap (x) (c.getD 1 0) (trL pc c 7 0) hx (by first|rfl|simpa using hc);have qA:=Qal (x) (c.getD 1 0) (trL pc c 7 0);have gS:=Qag (x) (c.getD 1 0) (trL pc c 7 0);have fF:=Qai gC;have gpC3:=QaB (x) (c.getD 1 0) (trL pc c 7 0) hx;generalize Qay (x) (c.getD 1 0) (trL pc c 7 0)=C3 at *;exact QIv
theorem Qxu (x:List Nat) (pc:Nat) (c:List Nat) (o:Int) (A B C:Nat) (m:Int) (hx:x.length=16) (hc:c.length=8) (hY:∀ y∈x,y<4294967296) (gA:∀ y∈c,y<4294967296) (gQ:pc<4294967296) (hA:A<16) (hB:B<16) (hC:C<16) (hm:o=58→0≤m∧m<8) (gB: -32768≤m∧m≤65535) (ho:o=57) :
  FN 91 [.agg (Qay x pc c),.agg (iv o A B C m)] [] (· =⟨.tup [.agg (Qay (exX x pc c o A B C m) (exP x pc c o A B m) (exC x pc c o A m)),.agg (exE x o A m)],[],[]⟩):=by
 have eX:exX x pc c o A B C m=x:=Qg6;have eP:exP x pc c o A B m=c.getD 2 0:=QBh;have eC:exC x pc c o A m=c.set 0 (QgC (c.getD 0 0)):=by unfold exC;rw [zN (by omega),zP (by omega)]
 have eE:exE x o A m= [.i 0,.i 0,.i 0,.u (0:Nat)]:=Qkd;rw [eX,eP,eC,eE];have rA:=Qaw x pc c A hx hA;have rB:=Qaw x pc c B hx hB;have rC:=Qaw x pc c C hx hC;have qm:IntKind.u32.wrap m=((w32 m:Nat):Int):=Qat m;have q4:IntKind.u32.wrap ((pc:Int)+4)=((w32 ((pc:Int)+4):Nat):Int):=Qat _;have q4m:IntKind.u32.wrap (4*((w32 m:Nat):Int))=((w32 (4*(w32 m:Nat)):Nat):Int):=Qat _;have xA:=Qab hY A;have xB:=Qab hY B;have lm:=QaH m;have gR:=Qap (x) (pc) (c) hx hc;have jI:=Qal (x) (pc) (c);have qR:=Qag (x) (pc) (c);have qW:=Qai gR;have gpCC:=QaB (x) (pc) (c) hx;have fW:=Qwt x pc c hx hc gA;unfold QEo at fW;have gC:=Qap (x) (c.getD 2 0) (c.set 0 (QgC (c.getD 0 0))) hx (by first|rfl|simpa using hc);have qA:=Qal (x) (c.getD 2 0) (c.set 0 (QgC (c.getD 0 0)));have gS:=Qag (x) (c.getD 2 0) (c.set 0 (QgC (c.getD 0 0)));have fF:=Qai gC;have gpC3:=QaB (x) (c.getD 2 0) (c.set 0 (QgC (c.getD 0 0))) hx;generalize Qay (x) (c.getD 2 0) (c.set 0 (QgC (c.getD 0 0)))=C3 at *;exact QIv
theorem Qwp (x:List Nat) (pc:Nat) (c:List Nat) (o:Int) (A B C:Nat) (m:Int) (hx:x.length=16) (hc:c.length=8) (hY:∀ y∈x,y<4294967296) (gA:∀ y∈c,y<4294967296) (gQ:pc<4294967296) (hA:A<16) (hB:B<16) (hC:C<16) (hm:o=58→0≤m∧m<8) (gB: -32768≤m∧m≤65535) (ho:o=58) :
  FN 91 [.agg (Qay x pc c),.agg (iv o A B C m)] [] (· =⟨.tup [.agg (Qay (exX x pc c o A B C m) (exP x pc c o A B m) (exC x pc c o A m)),.agg (exE x o A m)],[],[]⟩):=by
 have eX:exX x pc c o A B C m=QaE x A (c.getD m.toNat 0):=QoV;have eP:exP x pc c o A B m=w32 ((pc:Int)+4):=QiB;have eC:exC x pc c o A m=c:=Qci;have eE:exE x o A m= [.i 0,.i 0,.i 0,.u (0:Nat)]:=Qkd;rw [eX,eP,eC,eE];have rA:=Qaw x pc c A hx hA;have rB:=Qaw x pc c B hx hB;have rC:=Qaw x pc c C hx hC;have qm:IntKind.u32.wrap m=((w32 m:Nat):Int):=Qat m;have q4:IntKind.u32.wrap ((pc:Int)+4)=((w32 ((pc:Int)+4):Nat):Int):=Qat _;have q4m:IntKind.u32.wrap (4*((w32 m:Nat):Int))=((w32 (4*(w32 m:Nat)):Nat):Int):=Qat _;have xA:=Qab hY A;have xB:=Qab hY B;have lm:=QaH m;have gR:=Qap (x) (pc) (c) hx hc;have jI:=Qal (x) (pc) (c);have qR:=Qag (x) (pc) (c);have qW:=Qai gR;have gpCC:=QaB (x) (pc) (c) hx;obtain ⟨V,hV⟩:∃ V,c.getD m.toNat 0=V:=⟨_,rfl⟩;obtain ⟨PP,qV⟩:∃ PP,w32 ((pc:Int)+4)=PP:=⟨_,rfl⟩;rw [hV,qV];rw [qV] at q4;have hm8:=hm ho;have rM:=Qdu x pc c m.toNat hx hc (by omega);rw [hV] at rM;have gN:=Qgw x pc c A V hx hc hA;have jB:=QaR (QaE x A V) pc c PP (by rw [Qaz];exact hx);have qO:=Qap (QaE x A V) (pc) (c) (by rw [Qaz];exact hx) hc;have uL:=Qal (QaE x A V) (pc) (c);have jQ:=Qag (QaE x A V) (pc) (c);have wL:=Qai qO;have gpC2:=QaB (QaE x A V) (pc) (c) (by rw [Qaz];exact hx);have gC:=Qap (QaE x A V) (PP) (c) (by rw [Qaz];exact hx) hc;have qA:=Qal (QaE x A V) (PP) (c);have gS:=Qag (QaE x A V) (PP) (c);have fF:=Qai gC;have gpC3:=QaB (QaE x A V) (PP) (c) (by rw [Qaz];exact hx);generalize Qay (QaE x A V) (PP) (c)=C3,Qay (QaE x A V) (pc) (c)=C2 at *;clear eX eP eC eE;generalize x.getD A 0=vA,x.getD B 0=vB,x.getD C 0=vC,Qay (x) (pc) (c)=CC,w32 (4*((w32 m:Nat):Int))=m4 at *;generalize w32 m=mm,w32 ((pc:Int)+4)=p4 at *;refine fnW Tryz.func91 ?_;(repeat' ((conv=>whnf);first|exact zi2|(refine zj0 ?_;intro hb)|(with_reducible refine zv q4 ?_)|(apply Sd.mk; · first|exact ⟨gC,gS,rfl,(by show 0+C3.length≤25;omega)⟩|exact ⟨qO,jQ,rfl,(by show 0+C2.length≤CC.length;omega)⟩|(show (0:Int)≤m∧m<(8:Int);omega)|(refine ⟨rfl,rfl,rfl,?_⟩;show 0+16+1≤C2.length;omega))|refine QIm ?_|refine zq1 ?_|((with_reducible apply Ge.mk (α:=SV)); · first|exact rM|exact gpC2)|(refine zpu gN ?_)|refine zse ?_|refine zbb ?_ ?_))
 all_goals exact zF_
theorem Qzd (x:List Nat) (pc:Nat) (c:List Nat) (o:Int) (A B C:Nat) (m:Int) (hx:x.length=16) (hc:c.length=8) (hY:∀ y∈x,y<4294967296) (gA:∀ y∈c,y<4294967296) (gQ:pc<4294967296) (hA:A<16) (hB:B<16) (hC:C<16) (hm:o=58→0≤m∧m<8) (gB: -32768≤m∧m≤65535) (ho:o=59) :
  FN 91 [.agg (Qay x pc c),.agg (iv o A B C m)] [] (· =⟨.tup [.agg (Qay (exX x pc c o A B C m) (exP x pc c o A B m) (exC x pc c o A m)),.agg (exE x o A m)],[],[]⟩):=by
 have eX:exX x pc c o A B C m=x:=Qg6;have eP:exP x pc c o A B m=w32 ((pc:Int)+4):=QiB;have eC:exC x pc c o A m=wrL c m (x.getD A 0):=by unfold exC;rw [zN (by omega),zN (by omega),zP (by omega)]
 have eE:exE x o A m= [.i 0,.i 0,.i 0,.u (0:Nat)]:=Qkd;rw [eX,eP,eC,eE];have rA:=Qaw x pc c A hx hA;have rB:=Qaw x pc c B hx hB;have rC:=Qaw x pc c C hx hC;have qm:IntKind.u32.wrap m=((w32 m:Nat):Int):=Qat m;have q4:IntKind.u32.wrap ((pc:Int)+4)=((w32 ((pc:Int)+4):Nat):Int):=Qat _;have q4m:IntKind.u32.wrap (4*((w32 m:Nat):Int))=((w32 (4*(w32 m:Nat)):Nat):Int):=Qat _;have xA:=Qab hY A;have xB:=Qab hY B;have lm:=QaH m;have gR:=Qap (x) (pc) (c) hx hc;have jI:=Qal (x) (pc) (c);have qR:=Qag (x) (pc) (c);have qW:=Qai gR;have gpCC:=QaB (x) (pc) (c) hx;have gN:=QrG x pc c m (x.getD A 0) hx hc xA;rw [Qvh] at gN;have jB:=QaR x pc (wrL c m (x.getD A 0)) (w32 ((pc:Int)+4)) hx;have qO:=Qap (x) (pc) (wrL c m (x.getD A 0)) hx (by rw [QgE];exact hc);have uL:=Qal (x) (pc) (wrL c m (x.getD A 0));have jQ:=Qag (x) (pc) (wrL c m (x.getD A 0));have wL:=Qai qO;have gpC2:=QaB (x) (pc) (wrL c m (x.getD A 0)) hx;have gC:=Qap (x) (w32 ((pc:Int)+4)) (wrL c m (x.getD A 0)) hx (by rw [QgE];exact hc);have qA:=Qal (x) (w32 ((pc:Int)+4)) (wrL c m (x.getD A 0));have gS:=Qag (x) (w32 ((pc:Int)+4)) (wrL c m (x.getD A 0));have fF:=Qai gC;have gpC3:=QaB (x) (w32 ((pc:Int)+4)) (wrL c m (x.getD A 0)) hx;generalize Qay (x) (w32 ((pc:Int)+4)) (wrL c m (x.getD A 0))=C3,Qay (x) (pc) (wrL c m (x.getD A 0))=C2 at *;clear eX eP eC eE;generalize x.getD A 0=vA,x.getD B 0=vB,x.getD C 0=vC,Qay (x) (pc) (c)=CC,w32 (4*((w32 m:Nat):Int))=m4 at *;generalize w32 m=mm,w32 ((pc:Int)+4)=p4 at *;refine fnW Tryz.func91 ?_;(repeat' ((conv=>whnf);first|exact zi2|(refine zj0 ?_;intro hb)|(with_reducible refine zv q4 ?_)|(apply Sd.mk; · first|exact ⟨gC,gS,rfl,(by show 0+C3.length≤25;omega)⟩|exact ⟨qO,jQ,rfl,(by show 0+C2.length≤CC.length;omega)⟩|(show (0:Int)≤A∧(A:Int)<16;omega)|(refine ⟨rfl,rfl,rfl,?_⟩;show 0+16+1≤C2.length;omega))|refine QIm ?_|refine zq1 ?_|((with_reducible apply Ge.mk (α:=SV)); · first|exact rA|exact gpC2)|(refine zpu gN ?_)|refine zse ?_|refine zbb ?_ ?_))
 all_goals exact zF_
theorem QF8 (x:List Nat) (pc:Nat) (c:List Nat) (o:Int) (A B C:Nat) (m:Int) (hx:x.length=16) (hc:c.length=8) (hY:∀ y∈x,y<4294967296) (gA:∀ y∈c,y<4294967296) (gQ:pc<4294967296) (hA:A<16) (hB:B<16) (hC:C<16) (hm:o=58→0≤m∧m<8) (gB: -32768≤m∧m≤65535) (ho:o=60) :
  FN 91 [.agg (Qay x pc c),.agg (iv o A B C m)] [] (· =⟨.tup [.agg (Qay (exX x pc c o A B C m) (exP x pc c o A B m) (exC x pc c o A m)),.agg (exE x o A m)],[],[]⟩):=by
 have eX:exX x pc c o A B C m=x:=Qg6;have eP:exP x pc c o A B m=w32 ((pc:Int)+4):=QiB;have eC:exC x pc c o A m=c:=Qci;have eE:exE x o A m= [.i 1,.i m,.i (A:Nat),.u (0:Nat)]:=by unfold exE;rw [zP (by omega)]
 exact QBt
theorem QCH (x:List Nat) (pc:Nat) (c:List Nat) (o:Int) (A B C:Nat) (m:Int) (hx:x.length=16) (hc:c.length=8) (hY:∀ y∈x,y<4294967296) (gA:∀ y∈c,y<4294967296) (gQ:pc<4294967296) (hA:A<16) (hB:B<16) (hC:C<16) (hm:o=58→0≤m∧m<8) (gB: -32768≤m∧m≤65535) (ho:o=61) :
  FN 91 [.agg (Qay x pc c),.agg (iv o A B C m)] [] (· =⟨.tup [.agg (Qay (exX x pc c o A B C m) (exP x pc c o A B m) (exC x pc c o A m)),.agg (exE x o A m)],[],[]⟩):=by
 have eX:exX x pc c o A B C m=x:=Qg6;have eP:exP x pc c o A B m=w32 ((pc:Int)+4):=QiB;have eC:exC x pc c o A m=c:=Qci;have eE:exE x o A m= [.i 2,.i m,.i 0,.u (x.getD A 0:Nat)]:=by unfold exE;rw [zN (by omega),zP (by omega)]
 exact QBt
theorem QA1 (x:List Nat) (pc:Nat) (c:List Nat) (o:Int) (A B C:Nat) (m:Int) (hx:x.length=16) (hc:c.length=8) (hY:∀ y∈x,y<4294967296) (gA:∀ y∈c,y<4294967296) (gQ:pc<4294967296) (hA:A<16) (hB:B<16) (hC:C<16) (hm:o=58→0≤m∧m<8) (gB: -32768≤m∧m≤65535) (ho:o=62) :
  FN 91 [.agg (Qay x pc c),.agg (iv o A B C m)] [] (· =⟨.tup [.agg (Qay (exX x pc c o A B C m) (exP x pc c o A B m) (exC x pc c o A m)),.agg (exE x o A m)],[],[]⟩):=by
 have eX:exX x pc c o A B C m=x:=Qg6;have eP:exP x pc c o A B m=w32 ((pc:Int)+4):=QiB;have eC:exC x pc c o A m=c:=Qci;have eE:exE x o A m= [.i 3,.i 0,.i 0,.u (0:Nat)]:=by unfold exE;rw [zN (by omega),zN (by omega),zP (by omega)]
 exact QBt
theorem QuV (x:List Nat) (pc:Nat) (c:List Nat) (o:Int) (A B C:Nat) (m:Int) (hx:x.length=16) (hc:c.length=8) (hY:∀ y∈x,y<4294967296) (gA:∀ y∈c,y<4294967296) (gQ:pc<4294967296) (hA:A<16) (hB:B<16) (hC:C<16) (hm:o=58→0≤m∧m<8) (gB: -32768≤m∧m≤65535) (ho:o=63) :
  FN 91 [.agg (Qay x pc c),.agg (iv o A B C m)] [] (· =⟨.tup [.agg (Qay (exX x pc c o A B C m) (exP x pc c o A B m) (exC x pc c o A m)),.agg (exE x o A m)],[],[]⟩):=by
 have eX:exX x pc c o A B C m=x:=Qg6;have eP:exP x pc c o A B m=w32 ((pc:Int)+4):=QiB;have eC:exC x pc c o A m=c:=Qci;have eE:exE x o A m= [.i 5,.i 0,.i 0,.u (0:Nat)]:=Qur;exact QBt
theorem Qx4 (x:List Nat) (pc:Nat) (c:List Nat) (o:Int) (A B C:Nat) (m:Int) (hx:x.length=16) (hc:c.length=8) (hY:∀ y∈x,y<4294967296) (gA:∀ y∈c,y<4294967296) (gQ:pc<4294967296) (hA:A<16) (hB:B<16) (hC:C<16) (hm:o=58→0≤m∧m<8) (gB: -32768≤m∧m≤65535) (ho:o=64) :
  FN 91 [.agg (Qay x pc c),.agg (iv o A B C m)] [] (· =⟨.tup [.agg (Qay (exX x pc c o A B C m) (exP x pc c o A B m) (exC x pc c o A m)),.agg (exE x o A m)],[],[]⟩):=by
 have eX:exX x pc c o A B C m=x:=Qg6;have eP:exP x pc c o A B m=w32 ((pc:Int)+4):=QiB;have eC:exC x pc c o A m=c:=Qci;have eE:exE x o A m= [.i 4,.i 0,.i 0,.u (0:Nat)]:=QjZ;exact QBt
theorem Qtu (x:List Nat) (pc:Nat) (c:List Nat) (o:Int) (A B C:Nat) (m:Int) (hx:x.length=16) (hc:c.length=8) (hY:∀ y∈x,y<4294967296) (gA:∀ y∈c,y<4294967296) (gQ:pc<4294967296) (hA:A<16) (hB:B<16) (hC:C<16) (hm:o=58→0≤m∧m<8) (gB: -32768≤m∧m≤65535) (ho:40≤o∧o≤45∨o=48∨o=49) :
  FN 92 [.agg (Qay x pc c),.agg (iv o A B C m)] [] (· =⟨.a (.agg (Qay (exX x pc c o A B C m) (exP x pc c o A B m) (exC x pc c o A m))),[],[]⟩):=by
 rcases ho with h|h|h
 ·cases h3:Qde o (x.getD A 0) (x.getD B 0) with
  | true=>exact Qm6 x pc c o A B C m hx hc hY gA gQ hA hB hC hm gB ⟨h,h3⟩
  | false=>exact Qlu x pc c o A B C m hx hc hY gA gQ hA hB hC hm gB ⟨h,h3⟩
 ·exact QAq x pc c o A B C m hx hc hY gA gQ hA hB hC hm gB h
 ·exact QzK x pc c o A B C m hx hc hY gA gQ hA hB hC hm gB h
theorem Qzv (x:List Nat) (pc:Nat) (c:List Nat) (o:Int) (A B C:Nat) (m:Int) (hx:x.length=16) (hc:c.length=8) (hY:∀ y∈x,y<4294967296) (gA:∀ y∈c,y<4294967296) (gQ:pc<4294967296) (hA:A<16) (hB:B<16) (hC:C<16) (hm:o=58→0≤m∧m<8) (gB: -32768≤m∧m≤65535) (ho:56≤o∧o≤64) :
  FN 91 [.agg (Qay x pc c),.agg (iv o A B C m)] [] (· =⟨.tup [.agg (Qay (exX x pc c o A B C m) (exP x pc c o A B m) (exC x pc c o A m)),.agg (exE x o A m)],[],[]⟩):=by
 have e:o=56∨o=57∨o=58∨o=59∨o=60∨o=61∨o=62∨o=63∨o=64:=by omega
 rcases e with h|h|h|h|h|h|h|h|h
 ·exact QtY x pc c o A B C m hx hc hY gA gQ hA hB hC hm gB h
 ·exact Qxu x pc c o A B C m hx hc hY gA gQ hA hB hC hm gB h
 ·exact Qwp x pc c o A B C m hx hc hY gA gQ hA hB hC hm gB h
 ·exact Qzd x pc c o A B C m hx hc hY gA gQ hA hB hC hm gB h
 ·exact QF8 x pc c o A B C m hx hc hY gA gQ hA hB hC hm gB h
 ·exact QCH x pc c o A B C m hx hc hY gA gQ hA hB hC hm gB h
 ·exact QA1 x pc c o A B C m hx hc hY gA gQ hA hB hC hm gB h
 ·exact QuV x pc c o A B C m hx hc hY gA gQ hA hB hC hm gB h
 ·exact Qx4 x pc c o A B C m hx hc hY gA gQ hA hB hC hm gB h
theorem Qt6 (x:List Nat) (pc:Nat) (c:List Nat) (xs:List Nat) (n:Nat) (o:Int) (A B C:Nat) (m:Int) (hx:x.length=16) (hc:c.length=8) (gK:∀ y∈c,y<4294967296) (gQ:pc<4294967296) (hl:xs.length=n) (hY:∀ y∈xs,y<4294967296) (hn:n<4294967296) (jU:∀ y∈x,y<4294967296) (hA:A<16) (hB:B<16) (ho:32≤o∧o≤34) :
  FN 93 [.agg (Qay x pc c),.s (.sl 0 0 n),.agg (iv o A B C m)] [⟨true,1,wsv xs⟩]
   (· =⟨.a (.agg (Qay (ldX x xs n (c.getD 0 0) (c.getD 6 0) (vaO x B m) o A) (trP pc c (rsK xs n (c.getD 0 0) (c.getD 6 0) (vaO x B m) (wd o) 2)) (trC pc c (rsK xs n (c.getD 0 0) (c.getD 6 0) (vaO x B m) (wd o) 2) (vaO x B m)))),[(0,some ⟨true,1,wsv (rsM xs n (c.getD 0 0) (c.getD 6 0) (vaO x B m) (wd o) 2)⟩)],[]⟩):=by
 have gX:vaO x B m<4294967296:=QaH _;have VI:True:=trivial;have hr:=Qgj x pc c xs n (vaO x B m) (wd o) 2 hx hc gK hl hY hn gX;have rA:=Qaw x pc c A hx hA;have rB:=Qaw x pc c B hx hB;have xA:=Qab jU A;have qm:IntKind.u32.wrap m=((w32 m:Nat):Int):=Qat m;have q4:IntKind.u32.wrap ((pc:Int)+4)=((w32 ((pc:Int)+4):Nat):Int):=Qat _;have qv:IntKind.u32.wrap (((x.getD B 0:Nat):Int)+((w32 m:Nat):Int))=((vaO x B m:Nat):Int):=Qat _;have gL:=Qaa xs;generalize c.getD 0 0=S,c.getD 6 0=R,vaO x B m=va at *;have gR:=Qap (x) (pc) (c) hx hc;have jI:=Qal (x) (pc) (c);have qR:=Qag (x) (pc) (c);have qW:=Qai gR;have gpCC:=QaB (x) (pc) (c) hx;have HZ:=Qaa (rsM xs n S R va (wd o) 2);unfold ldX trP trC
 by_cases hK:rsK xs n S R va (wd o) 2=0
 ·have hok:=Qhe hK
  obtain ⟨ha,vU⟩:=Qhj hok gX;have gI:(rsM xs n S R va (wd o) 2).length=n:=by rw [Qbl];exact hl
  have gB:=Qc6 xs n S R va (wd o) 2 hY;rw [zP hK,zP hK,zP hK];rw [hK] at hr;generalize rsM xs n S R va (wd o) 2=M,rsA xs n S R va (wd o) 2=AA at *
  obtain ⟨V0,qJ,hV⟩:∃ V0,FN 77 [.s (.sl 0 0 n),.s (.u AA),.s (.i (wd o))] [⟨false,1,wsv M⟩] (· =⟨.tup [.s (.u ((V0:Nat):Int)),.s (.bool true)],[],[]⟩)∧V0<4294967296∧ldV o M AA=(if o=33 then sx8 V0 else V0):=by
   by_cases h32:o=32
   ·subst h32
    exact ⟨_,QeZ M n AA hn vU gI ha,Qab gB _,rfl⟩
   ·have wK:wd o=1:=zN (by omega)
    rw [wK] at ha ⊢;refine ⟨_,Qm7 M n AA hn vU gI gB ha,Nat.lt_trans (Qpt _ _) (by decide),?_⟩;unfold ldV;rw [zN h32]
  have GF:=Qy0 V0 hV.1;obtain ⟨V,WT⟩:∃ V,ldV o M AA=V:=⟨_,rfl⟩;rw [WT] at hV ⊢;have gN:=Qgw x pc c A V hx hc hA;have jB:=QaR (QaE x A V) pc c (w32 ((pc:Int)+4)) (by rw [Qaz];exact hx);have qO:=Qap (QaE x A V) (pc) (c) (by rw [Qaz];exact hx) hc;have uL:=Qal (QaE x A V) (pc) (c);have jQ:=Qag (QaE x A V) (pc) (c);have wL:=Qai qO;have gpC2:=QaB (QaE x A V) (pc) (c) (by rw [Qaz];exact hx);have gC:=Qap (QaE x A V) (w32 ((pc:Int)+4)) (c) (by rw [Qaz];exact hx) hc;have qA:=Qal (QaE x A V) (w32 ((pc:Int)+4)) (c);have gS:=Qag (QaE x A V) (w32 ((pc:Int)+4)) (c);have fF:=Qai gC;have gpC3:=QaB (QaE x A V) (w32 ((pc:Int)+4)) (c) (by rw [Qaz];exact hx);clear WT;generalize wsv M=XM,wsv xs=XX,x.getD A 0=vA,x.getD B 0=vB,w32 m=mm,Qay (QaE x A V) (w32 ((pc:Int)+4)) (c)=C3,Qay (QaE x A V) (pc) (c)=C2,Qay (x) (pc) (c)=CC at *;generalize w32 ((pc:Int)+4)=p4 at *;have e:o=32∨o=33∨o=34:=by omega
  have hV0:=hV.1;rcases e with rfl|rfl|rfl
  all_goals first
   | (
     obtain hq:V=sx8 V0:=hV.2;rw [← hq] at GF
     clear hq hV)
   | (
     obtain rfl:V=V0:=hV.2
     clear hV)
  all_goals
   refine fnW Tryz.func93 ?_;(repeat' ((conv=>whnf);first|exact zi2|(refine zj0 ?_;intro hb)|refine QEu ?_|refine QGe ?_|refine QDY ?_|refine zq1 ?_|((with_reducible apply Ge.mk (α:=SV)); · first|exact rB|exact gpC2)|(refine Qg3 hr ?_)|(refine QaD qJ ?_)|(refine zpu GF ?_)|(refine zpu gN ?_)|refine zse ?_|refine zbb ?_ ?_))
   all_goals exact QfL
 ·have fW:=Qc0 x pc c (rsK xs n S R va (wd o) 2) va hx hc gK
  rw [Qbo] at fW;rw [zN hK,zN hK,zN hK];have gC:=Qap (x) (c.getD 1 0) (trL pc c (rsK xs n S R va (wd o) 2) va) hx rfl;have qA:=Qal (x) (c.getD 1 0) (trL pc c (rsK xs n S R va (wd o) 2) va);have gS:=Qag (x) (c.getD 1 0) (trL pc c (rsK xs n S R va (wd o) 2) va);have fF:=Qai gC;have gpC3:=QaB (x) (c.getD 1 0) (trL pc c (rsK xs n S R va (wd o) 2) va) hx;generalize wsv (rsM xs n S R va (wd o) 2)=XM,rsA xs n S R va (wd o) 2=AA,wsv xs=XX,x.getD A 0=vA,x.getD B 0=vB,w32 m=mm,Qay (x) (c.getD 1 0) (trL pc c (rsK xs n S R va (wd o) 2) va)=C3,Qay (x) (pc) (c)=CC at *;generalize rsK xs n S R va (wd o) 2=K at *;have e:o=32∨o=33∨o=34:=by omega
  rcases e with rfl|rfl|rfl
  all_goals
   refine fnW Tryz.func93 ?_;exact QyL
theorem QoR (x:List Nat) (pc:Nat) (c:List Nat) (xs:List Nat) (n:Nat) (o:Int) (A B C:Nat) (m:Int) (hx:x.length=16) (hc:c.length=8) (gK:∀ y∈c,y<4294967296) (gQ:pc<4294967296) (hl:xs.length=n) (hY:∀ y∈xs,y<4294967296) (hn:n<4294967296) (jU:∀ y∈x,y<4294967296) (hA:A<16) (hB:B<16) (ho:35≤o∧o≤36) :
  FN 93 [.agg (Qay x pc c),.s (.sl 0 0 n),.agg (iv o A B C m)] [⟨true,1,wsv xs⟩]
   (· =⟨.a (.agg (Qay x (trP pc c (rsK xs n (c.getD 0 0) (c.getD 6 0) (vaO x B m) (wd o) 3)) (trC pc c (rsK xs n (c.getD 0 0) (c.getD 6 0) (vaO x B m) (wd o) 3) (vaO x B m)))),[(0,some ⟨true,1,wsv (stX xs n (c.getD 0 0) (c.getD 6 0) (vaO x B m) (x.getD A 0) o)⟩)],[]⟩):=by
 have gX:vaO x B m<4294967296:=QaH _;have VI:True:=trivial;have hr:=Qgj x pc c xs n (vaO x B m) (wd o) 3 hx hc gK hl hY hn gX;have rA:=Qaw x pc c A hx hA;have rB:=Qaw x pc c B hx hB;have xA:=Qab jU A;have qm:IntKind.u32.wrap m=((w32 m:Nat):Int):=Qat m;have q4:IntKind.u32.wrap ((pc:Int)+4)=((w32 ((pc:Int)+4):Nat):Int):=Qat _;have qv:IntKind.u32.wrap (((x.getD B 0:Nat):Int)+((w32 m:Nat):Int))=((vaO x B m:Nat):Int):=Qat _;have gL:=Qaa xs;generalize c.getD 0 0=S,c.getD 6 0=R,vaO x B m=va at *;have gR:=Qap (x) (pc) (c) hx hc;have jI:=Qal (x) (pc) (c);have qR:=Qag (x) (pc) (c);have qW:=Qai gR;have gpCC:=QaB (x) (pc) (c) hx;have HZ:=Qaa (rsM xs n S R va (wd o) 3);unfold stX trP trC
 by_cases hK:rsK xs n S R va (wd o) 3=0
 ·have hok:=Qhe hK
  obtain ⟨ha,vU⟩:=Qhj hok gX;have gI:(rsM xs n S R va (wd o) 3).length=n:=by rw [Qbl];exact hl
  have gB:=Qc6 xs n S R va (wd o) 3 hY;rw [zP hK,zP hK,zP hK];rw [hK] at hr;generalize rsM xs n S R va (wd o) 3=M,rsA xs n S R va (wd o) 3=AA at *
  have qJ:FN 164 [.s (.sl 0 0 n),.s (.u AA),.s (.i (wd o)),.s (.u (x.getD A 0:Nat))] [⟨true,1,wsv M⟩] (· =⟨.tup [],[(0,some ⟨true,1,wsv (stM o M AA (x.getD A 0))⟩)],[]⟩):=by
   by_cases vH:o=35
   ·subst vH
    exact Quq M n AA (x.getD A 0) vU gI ha
   ·have wK:wd o=1:=zN (by omega)
    rw [wK] at ha ⊢;unfold stM;rw [zN vH];exact QsL M n AA (x.getD A 0) vU gI ha
  have hss:=Qaa (stM o M AA (x.getD A 0));have jB:=QaR x pc c (w32 ((pc:Int)+4)) hx;have gC:=Qap (x) (w32 ((pc:Int)+4)) (c) hx hc;have qA:=Qal (x) (w32 ((pc:Int)+4)) (c);have gS:=Qag (x) (w32 ((pc:Int)+4)) (c);have fF:=Qai gC;have gpC3:=QaB (x) (w32 ((pc:Int)+4)) (c) hx;generalize wsv (stM o M AA (x.getD A 0))=XS,wsv M=XM,wsv xs=XX at *;generalize x.getD A 0=vA,x.getD B 0=vB,w32 m=mm,Qay (x) (w32 ((pc:Int)+4)) (c)=C3,Qay (x) (pc) (c)=CC at *;generalize w32 ((pc:Int)+4)=p4 at *;have e:o=35∨o=36:=by omega
  rcases e with rfl|rfl
  all_goals
   refine fnW Tryz.func93 ?_;(repeat' ((conv=>whnf);first|exact zi2|(refine zj0 ?_;intro hb)|refine QEu ?_|refine zq9 ?_|refine QEI ?_|refine zq1 ?_|refine QEQ ?_|(refine Qg3 hr ?_)|(refine Qg3 qJ ?_)|refine zse ?_|refine zbb ?_ ?_))
   all_goals exact QfL
 ·have fW:=Qc0 x pc c (rsK xs n S R va (wd o) 3) va hx hc gK
  rw [Qbo] at fW;rw [zN hK,zN hK,zN hK];have gC:=Qap (x) (c.getD 1 0) (trL pc c (rsK xs n S R va (wd o) 3) va) hx rfl;have qA:=Qal (x) (c.getD 1 0) (trL pc c (rsK xs n S R va (wd o) 3) va);have gS:=Qag (x) (c.getD 1 0) (trL pc c (rsK xs n S R va (wd o) 3) va);have fF:=Qai gC;have gpC3:=QaB (x) (c.getD 1 0) (trL pc c (rsK xs n S R va (wd o) 3) va) hx;generalize wsv (rsM xs n S R va (wd o) 3)=XM,rsA xs n S R va (wd o) 3=AA,wsv xs=XX,x.getD A 0=vA,x.getD B 0=vB,w32 m=mm,Qay (x) (c.getD 1 0) (trL pc c (rsK xs n S R va (wd o) 3) va)=C3,Qay (x) (pc) (c)=CC at *;generalize rsK xs n S R va (wd o) 3=K at *;have e:o=35∨o=36:=by omega
  rcases e with rfl|rfl
  all_goals
   refine fnW Tryz.func93 ?_;exact QyL
def sst (xs:List Nat) (n j:Nat):St :=
 ⟨[(0,.a (.s (.sl 0 0 n))),(1,.a (.s (.sl 1 0 n))),(5,.a (.s (.i j)))],[(0,some ⟨false,1,wsv xs⟩),(1,some ⟨false,1,wsv xs⟩)],[0]⟩
theorem QwD (xs:List Nat) (n:Nat) (hl:xs.length=n) (hn:n<4294967296):FN 23 [.s (.sl 0 0 n),.s (.sl 1 0 n)] [⟨false,1,wsv xs⟩,⟨false,1,wsv xs⟩] (· =⟨.a (.s (.bool true)),[],[]⟩):=by
 refine fnW Tryz.func23 ?_;(repeat' ((conv=>whnf);first|exact zi1|(refine zj0 ?_;intro hb)|refine zs0 ?_|refine zbb ?_ ?_));all_goals (conv=>whnf)
 ·refine Lp.inv (fun m σ=>∃ j:Nat,m+j=n∧σ=sst xs n j) ?_ ?_
  ·refine ⟨n,sst xs n 0,?_,0,by omega,rfl⟩
   (exact zwL [(0,some 0),(1,some 1)])
  ·rintro m σ ⟨j,hm,rfl⟩
   unfold sst
   have g:(j:Int)<n→(wsv xs)[0+(j:Int).toNat * 1]?=some (.u (xs.getD j 0:Nat)):=fun h=>by
    rw [Nat.zero_add,Nat.mul_one,Int.toNat_natCast];exact Qa0 xs j (by omega)
   (repeat' ((conv=>whnf);first|exact zi1|(refine zj0 ?_;intro hb)|((with_reducible apply Ge.mk (α:=SV)); · exact g (by omega))|refine zs0 ?_|refine zbb ?_ ?_));all_goals (conv=>whnf)
   ·refine ⟨m-1,sst xs n (j+1),by omega,?_,j+1,by omega,rfl⟩
    (exact zwL [(0,some 0),(1,some 1)])
   ·(exact QdV)
theorem Qtm (o:Int):FN 90 [.s (.i o)] [] (· =⟨.a (.s (.bool (Qf5 o))),[],[]⟩):=by
 refine fnW Tryz.func90 ?_;(repeat' ((conv=>whnf);first|exact zi0|(refine zj0 ?_;intro hb)|refine zs0 ?_|refine zbb ?_ ?_));all_goals (conv=>whnf)
 all_goals
  apply Qam
  (focus rfl)
  simp only [Qbc];congr 3;simp only [Qf5]
  first
   | (refine (decide_eq_false ?_).symm;omega)
   | (refine (decide_eq_true ?_).symm;omega)
   | (rw [Bool.eq_iff_iff];simp only [decide_eq_true_eq];omega)
theorem Qlk (w:Nat) (hw:w<4294967296) (h:dOk w=true):FN 78 [.s (.u w)] [] (· =⟨.tup [.agg (iv (dOp w) (dA w) (dB w) (dC w) (dM w)),.s (.bool true)],[],[]⟩):=by
 have:=Qof w hw;rw [h] at this;exact this
theorem QkQ (w:Nat) (hw:w<4294967296) (h:dOk w=false):FN 78 [.s (.u w)] [] (· =⟨.tup [.agg (iv 0 0 0 0 0),.s (.bool false)],[],[]⟩):=by
 have:=Qof w hw;rw [h] at this;exact this
theorem QDE (x:List Nat) (pc:Nat) (c:List Nat) (xs:List Nat) (n:Nat) (hx:x.length=16) (hc:c.length=8) (gK:∀ y∈c,y<4294967296) (gQ:pc<4294967296) (hl:xs.length=n) (hY:∀ y∈xs,y<4294967296) (hn:n<4294967296) (jU:∀ y∈x,y<4294967296) (Q:Ex) (hQ:exS x pc c xs n=Q) :
  FN 48 [.agg (Qay x pc c),.s (.sl 0 0 n)] [⟨true,1,wsv xs⟩]
   (· =⟨.tup [.agg (Qay Q.x Q.pc Q.c),.agg Q.e],[(0,some ⟨true,1,wsv Q.m⟩)],[]⟩):=by
 have hr:=Qgj x pc c xs n pc 4 1 hx hc gK hl hY hn gQ;have b1:=QmI (c.getD 0 0) (Qab gK 0);have g0:=Qdu x pc c 0 hx hc (by decide);have zJ:=QoN xs n (c.getD 0 0) (c.getD 6 0) pc hY;have hM:=Qc6 xs n (c.getD 0 0) (c.getD 6 0) pc 4 1 hY;have GO:(rsM xs n (c.getD 0 0) (c.getD 6 0) pc 4 1).length=n:=by rw [Qbl];exact hl
 have gL:=Qaa xs;have HZ:=Qaa (rsM xs n (c.getD 0 0) (c.getD 6 0) pc 4 1);have gR:=Qap (x) (pc) (c) hx hc;have jI:=Qal (x) (pc) (c);have qR:=Qag (x) (pc) (c);have qW:=Qai gR;have gpCC:=QaB (x) (pc) (c) hx;unfold exS at hQ
 by_cases hK:rsK xs n (c.getD 0 0) (c.getD 6 0) pc 4 1=0
 case neg =>
  rw [zP hK] at hQ;subst hQ;have fW:=Qc0 x pc c (rsK xs n (c.getD 0 0) (c.getD 6 0) pc 4 1) pc hx hc gK;rw [Qbo] at fW;dsimp only [E0];have gC:=Qap (x) (c.getD 1 0) (trL pc c (rsK xs n (c.getD 0 0) (c.getD 6 0) pc 4 1) (pc)) hx rfl;have qA:=Qal (x) (c.getD 1 0) (trL pc c (rsK xs n (c.getD 0 0) (c.getD 6 0) pc 4 1) (pc));have gS:=Qag (x) (c.getD 1 0) (trL pc c (rsK xs n (c.getD 0 0) (c.getD 6 0) pc 4 1) (pc));have fF:=Qai gC;have gpC3:=QaB (x) (c.getD 1 0) (trL pc c (rsK xs n (c.getD 0 0) (c.getD 6 0) pc 4 1) (pc)) hx;generalize Qay (x) (c.getD 1 0) (trL pc c (rsK xs n (c.getD 0 0) (c.getD 6 0) pc 4 1) (pc))=C3 at *;generalize rsK xs n (c.getD 0 0) (c.getD 6 0) pc 4 1=K,rsA xs n (c.getD 0 0) (c.getD 6 0) pc 4 1=AA,wsv (rsM xs n (c.getD 0 0) (c.getD 6 0) pc 4 1)=XM,wsv xs=XX,Qay (x) (pc) (c)=CC at *;refine fnW Tryz.func48 ?_;(repeat' ((conv=>whnf);first|exact zi2|(refine zj0 ?_;intro hb)|refine Qu7 ?_|refine zq4 ?_|refine zq1 ?_|refine Qz1 ?_|(refine Qg3 hr ?_)|(refine zpu fW ?_)|refine zse ?_|refine zbb ?_ ?_))
  all_goals exact QfL
 rw [zN (fun h=>h hK)] at hQ;obtain ⟨ha,vU⟩:=Qhj (Qhe hK) gQ;have qJ:=QeZ (rsM xs n (c.getD 0 0) (c.getD 6 0) pc 4 1) n (rsA xs n (c.getD 0 0) (c.getD 6 0) pc 4 1) hn vU GO ha;have hWe:(rsM xs n (c.getD 0 0) (c.getD 6 0) pc 4 1).getD (rsA xs n (c.getD 0 0) (c.getD 6 0) pc 4 1 / 4) 0=ftW xs n (c.getD 0 0) (c.getD 6 0) pc:=by unfold ftW;rw [zP hK]
 rw [hWe] at qJ;rw [hK] at hr;generalize hS:c.getD 0 0=S,hR:c.getD 6 0=R at *;generalize hW:ftW xs n S R pc=W,hXM:rsM xs n S R pc 4 1=M,rsA xs n S R pc 4 1=AA at *;clear hK hW hXM hWe ha
 cases hd:dOk W with
 | false =>
  rw [zP hd] at hQ;subst hQ;have jO:=QkQ W zJ hd;unfold iv at jO;have fW:=Qc0 x pc c 1 W hx hc gK;rw [Qbo] at fW;dsimp only [E0];have gC:=Qap (x) (c.getD 1 0) (trL pc c (1) (W)) hx rfl;have qA:=Qal (x) (c.getD 1 0) (trL pc c (1) (W));have gS:=Qag (x) (c.getD 1 0) (trL pc c (1) (W));have fF:=Qai gC;have gpC3:=QaB (x) (c.getD 1 0) (trL pc c (1) (W)) hx;generalize Qay (x) (c.getD 1 0) (trL pc c (1) (W))=C3,wsv M=XM,wsv xs=XX,Qay (x) (pc) (c)=CC at *;refine fnW Tryz.func48 ?_;(repeat' ((conv=>whnf);first|exact zi2|(refine zj0 ?_;intro hb)|refine Qu7 ?_|refine zq4 ?_|refine zq1 ?_|refine Qz1 ?_|(refine Qg3 hr ?_)|(refine QaD qJ ?_)|(refine zpu jO ?_)|(refine zpu fW ?_)|refine zse ?_|refine zbb ?_ ?_));all_goals (conv=>whnf)
  all_goals exact QfL
 | true =>
 rw [zN (by rw [hd];decide)] at hQ;have jO:=Qlk W zJ hd;obtain ⟨a1,a2,b1',b2,c1,c2,m1,m2,_⟩:=Qic W hd;rw [a1,b1',c1] at jO;have gH:=Qtm (dOp W);generalize nA W=A,nB W=B,nC W=C,dM W=m,dOp W=o at *;clear hd a1 b1' c1
 by_cases hpv:57≤o∧S%2=0
 ·rw [zP hpv] at hQ
  subst hQ;rw [show Qf5 o=true from decide_eq_true (by omega)] at gH;replace b1:bits .and .u32 (S:Int) 1=0:=b1.trans (by rw [hpv.2];rfl);have fW:=Qc0 x pc c 2 W hx hc gK;rw [Qbo] at fW;dsimp only [E0];unfold iv at jO;have gC:=Qap (x) (c.getD 1 0) (trL pc c (2) (W)) hx rfl;have qA:=Qal (x) (c.getD 1 0) (trL pc c (2) (W));have gS:=Qag (x) (c.getD 1 0) (trL pc c (2) (W));have fF:=Qai gC;have gpC3:=QaB (x) (c.getD 1 0) (trL pc c (2) (W)) hx;generalize Qay (x) (c.getD 1 0) (trL pc c (2) (W))=C3,wsv M=XM,wsv xs=XX,Qay (x) (pc) (c)=CC at *;refine fnW Tryz.func48 ?_;(repeat' ((conv=>whnf);first|exact zi2|(refine zj0 ?_;intro hb)|refine Qz6 ?_|refine Qu7 ?_|refine zq4 ?_|refine zq1 ?_|((with_reducible apply Ge.mk (α:=SV)); · first|exact g0|exact gpCC)|(refine Qg3 hr ?_)|(refine QaD qJ ?_)|(refine zpu jO ?_)|(refine zpu gH ?_)|(refine zpu fW ?_)|refine zse ?_|refine zbb ?_ ?_))
  all_goals exact QfL
 rw [zN hpv] at hQ;obtain ⟨bp,ZA,jC⟩:∃ bp,Qf5 o=bp∧(bp=true→S%2=1):=⟨_,rfl,fun h=>by unfold Qf5 at h;simp only [decide_eq_true_eq] at h;omega⟩;rw [ZA] at gH
 by_cases h32:32≤o∧o≤34
 ·rw [zP h32] at hQ
  subst hQ;have jN:=Qt6 x pc c M n o A B C m hx hc gK gQ GO hM hn jU a2 b2 h32;rw [hS,hR] at jN;dsimp only [E0];have UH:=Qaa (rsM M n S R (vaO x B m) (wd o) 2);obtain rfl:bp=false:=QnL;clear jC hpv;have gC:=Qap (ldX x M n S R (vaO x B m) o A) (trP pc c (rsK M n S R (vaO x B m) (wd o) 2)) (trC pc c (rsK M n S R (vaO x B m) (wd o) 2) (vaO x B m)) (by rw [QgM];exact hx) (Qe0 _ _ _ _ hc);have qA:=Qal (ldX x M n S R (vaO x B m) o A) (trP pc c (rsK M n S R (vaO x B m) (wd o) 2)) (trC pc c (rsK M n S R (vaO x B m) (wd o) 2) (vaO x B m));have gS:=Qag (ldX x M n S R (vaO x B m) o A) (trP pc c (rsK M n S R (vaO x B m) (wd o) 2)) (trC pc c (rsK M n S R (vaO x B m) (wd o) 2) (vaO x B m));have fF:=Qai gC;have gpC3:=QaB (ldX x M n S R (vaO x B m) o A) (trP pc c (rsK M n S R (vaO x B m) (wd o) 2)) (trC pc c (rsK M n S R (vaO x B m) (wd o) 2) (vaO x B m)) (by rw [QgM];exact hx);generalize Qay (ldX x M n S R (vaO x B m) o A) (trP pc c (rsK M n S R (vaO x B m) (wd o) 2)) (trC pc c (rsK M n S R (vaO x B m) (wd o) 2) (vaO x B m))=C3,wsv (rsM M n S R (vaO x B m) (wd o) 2)=XL,wsv M=XM,wsv xs=XX,Qay (x) (pc) (c)=CC at *;unfold iv at jO jN;refine fnW Tryz.func48 ?_;exact QiM
 rw [zN h32] at hQ
 by_cases vH:35≤o∧o≤36
 ·rw [zP vH] at hQ
  subst hQ;have jN:=QoR x pc c M n o A B C m hx hc gK gQ GO hM hn jU a2 b2 vH;rw [hS,hR] at jN;dsimp only [E0];have UH:=Qaa (stX M n S R (vaO x B m) (x.getD A 0) o);obtain rfl:bp=false:=QnL;clear jC hpv;have gC:=Qap (x) (trP pc c (rsK M n S R (vaO x B m) (wd o) 3)) (trC pc c (rsK M n S R (vaO x B m) (wd o) 3) (vaO x B m)) hx (Qe0 _ _ _ _ hc);have qA:=Qal (x) (trP pc c (rsK M n S R (vaO x B m) (wd o) 3)) (trC pc c (rsK M n S R (vaO x B m) (wd o) 3) (vaO x B m));have gS:=Qag (x) (trP pc c (rsK M n S R (vaO x B m) (wd o) 3)) (trC pc c (rsK M n S R (vaO x B m) (wd o) 3) (vaO x B m));have fF:=Qai gC;have gpC3:=QaB (x) (trP pc c (rsK M n S R (vaO x B m) (wd o) 3)) (trC pc c (rsK M n S R (vaO x B m) (wd o) 3) (vaO x B m)) hx;generalize Qay (x) (trP pc c (rsK M n S R (vaO x B m) (wd o) 3)) (trC pc c (rsK M n S R (vaO x B m) (wd o) 3) (vaO x B m))=C3,wsv (stX M n S R (vaO x B m) (x.getD A 0) o)=XL,wsv M=XM,wsv xs=XX,Qay (x) (pc) (c)=CC at *;unfold iv at jO jN;refine fnW Tryz.func48 ?_;exact QiM
 rw [zN vH] at hQ;subst hQ;obtain ⟨es,ek,el⟩:=Qh4 x o A m
 by_cases h56:56≤o
 ·have jN:=Qzv x pc c o A B C m hx hc jU gK gQ a2 b2 c2 m2 m1 (by omega)
  have gC:=Qap (exX x pc c o A B C m) (exP x pc c o A B m) (exC x pc c o A m) (by rw [Qec];exact hx) (QhV x pc c o A m hc);have qA:=Qal (exX x pc c o A B C m) (exP x pc c o A B m) (exC x pc c o A m);have gS:=Qag (exX x pc c o A B C m) (exP x pc c o A B m) (exC x pc c o A m);have fF:=Qai gC;have gpC3:=QaB (exX x pc c o A B C m) (exP x pc c o A B m) (exC x pc c o A m) (by rw [Qec];exact hx);dsimp only;generalize Qay (exX x pc c o A B C m) (exP x pc c o A B m) (exC x pc c o A m)=C3,wsv M=XM,wsv xs=XX,exE x o A m=EE at *;have WF:∀ c:List SV,c.length=4→QaC c 0 EE=EE:=fun c hc=>Qch (hc.trans el.symm)
  generalize Qay (x) (pc) (c)=CC at *;unfold iv at jO jN
  cases bp with
  | false =>
   refine fnW Tryz.func48 ?_;(repeat' ((conv=>whnf);first|exact zi2|(refine zj0 ?_;intro hb)|refine QIE ?_|refine QEr ?_|refine QEf ?_|refine Qz1 ?_|(refine Qg3 hr ?_)|(refine QaD qJ ?_)|(refine zpu jO ?_)|(refine zpu gH ?_)|(refine zpu jN ?_)|refine zse ?_|refine zbb ?_ ?_));all_goals (conv=>whnf)
   all_goals exact QfL
  | true =>
   replace b1:bits .and .u32 (S:Int) 1=1:=b1.trans (by rw [jC rfl];rfl);refine fnW Tryz.func48 ?_;(repeat' ((conv=>whnf);first|exact zi2|(refine zj0 ?_;intro hb)|refine Qz6 ?_|refine QIE ?_|refine QEr ?_|refine QEf ?_|((with_reducible apply Ge.mk (α:=SV)); · first|exact g0|exact gpCC)|(refine Qg3 hr ?_)|(refine QaD qJ ?_)|(refine zpu jO ?_)|(refine zpu gH ?_)|(refine zpu jN ?_)|refine zse ?_|refine zbb ?_ ?_))
   all_goals exact QfL
 obtain rfl:bp=false:=QnL;have eE:exE x o A m= [.i 0,.i 0,.i 0,.u (0:Nat)]:=Qkd;dsimp only;rw [eE];clear es ek el eE jC
 by_cases h40:40≤o
 ·have jN:=Qtu x pc c o A B C m hx hc jU gK gQ a2 b2 c2 m2 m1 (by omega)
  have gC:=Qap (exX x pc c o A B C m) (exP x pc c o A B m) (exC x pc c o A m) (by rw [Qec];exact hx) (QhV x pc c o A m hc);have qA:=Qal (exX x pc c o A B C m) (exP x pc c o A B m) (exC x pc c o A m);have gS:=Qag (exX x pc c o A B C m) (exP x pc c o A B m) (exC x pc c o A m);have fF:=Qai gC;have gpC3:=QaB (exX x pc c o A B C m) (exP x pc c o A B m) (exC x pc c o A m) (by rw [Qec];exact hx);generalize Qay (exX x pc c o A B C m) (exP x pc c o A B m) (exC x pc c o A m)=C3,wsv M=XM,wsv xs=XX,Qay (x) (pc) (c)=CC at *;unfold iv at jO jN;refine fnW Tryz.func48 ?_;(repeat' ((conv=>whnf);first|exact zi2|(refine zj0 ?_;intro hb)|refine Qu7 ?_|refine zq4 ?_|refine zq1 ?_|refine Qz1 ?_|(refine Qg3 hr ?_)|(refine QaD qJ ?_)|(refine zpu jO ?_)|(refine zpu gH ?_)|(refine zpu jN ?_)|refine zse ?_|refine zbb ?_ ?_))
  all_goals exact QfL
 have eC:exC x pc c o A m=c:=Qci;have eP:exP x pc c o A B m=w32 ((pc:Int)+4):=QiB
 obtain ⟨V,hV,hV3,hVi,hVl⟩:∃ V,exX x pc c o A B C m=QaE x A V∧(o≤13→V=Qbv o (x.getD B 0) (x.getD C 0))∧(16≤o∧o≤23→V=Qbv o (x.getD B 0) (w32 m))∧(o=24→V=w32 ((w32 m:Nat)*65536)):=by
  unfold exX
  by_cases h1:1≤o∧o≤13
  ·rw [zP h1]
   exact ⟨_,rfl,fun _=>rfl,fun h=>by omega,fun h=>by omega⟩
  ·rw [zN h1]
   by_cases h2:16≤o∧o≤23
   ·rw [zP h2]
    exact ⟨_,rfl,fun h=>by omega,fun _=>rfl,fun h=>by omega⟩
   ·rw [zN h2,zP (by omega)]
    exact ⟨_,rfl,fun h=>by omega,fun h=>by omega,fun _=>rfl⟩
 rw [hV,eC,eP];have gN:=Qgw x pc c A V hx hc a2;have rB:=Qaw x pc c B hx b2;have rC:=Qaw x pc c C hx c2;have xB:=Qab jU B;have xC:=Qab jU C;have lm:=QaH m;have qm:IntKind.u32.wrap m=((w32 m:Nat):Int):=Qat m;have q4:IntKind.u32.wrap ((pc:Int)+4)=((w32 ((pc:Int)+4):Nat):Int):=Qat _;have hal3:=QrA o (x.getD B 0) (x.getD C 0) xB xC;have hali:=QrA o (x.getD B 0) (w32 m) xB lm;rw [← Qbj o (x.getD B 0) (x.getD C 0) xB xC] at hal3;rw [← Qbj o (x.getD B 0) (w32 m) xB lm] at hali;have q16:IntKind.u32.wrap (((w32 m:Nat):Int)*2^min (Int.toNat 16) IntKind.u32.bits)=((w32 ((w32 m:Nat)*65536):Nat):Int):=by rw [show (2:Int)^min (Int.toNat 16) IntKind.u32.bits=65536 from rfl,Qat]
 have jB:=QaR (QaE x A V) pc c (w32 ((pc:Int)+4)) (by rw [Qaz];exact hx);have qO:=Qap (QaE x A V) (pc) (c) (by rw [Qaz];exact hx) hc;have uL:=Qal (QaE x A V) (pc) (c);have jQ:=Qag (QaE x A V) (pc) (c);have wL:=Qai qO;have gpC2:=QaB (QaE x A V) (pc) (c) (by rw [Qaz];exact hx);have gC:=Qap (QaE x A V) (w32 ((pc:Int)+4)) (c) (by rw [Qaz];exact hx) hc;have qA:=Qal (QaE x A V) (w32 ((pc:Int)+4)) (c);have gS:=Qag (QaE x A V) (w32 ((pc:Int)+4)) (c);have fF:=Qai gC;have gpC3:=QaB (QaE x A V) (w32 ((pc:Int)+4)) (c) (by rw [Qaz];exact hx);generalize Qay (QaE x A V) (w32 ((pc:Int)+4)) (c)=C3,Qay (QaE x A V) (pc) (c)=C2 at *;clear hV eC eP hpv;generalize w32 ((pc:Int)+4)=p4,QbX o=bb,Qbv o (x.getD B 0) (x.getD C 0)=V3,Qbv o (x.getD B 0) (w32 m)=Vi,w32 ((w32 m:Nat)*65536)=Vl_ at *;generalize w32 m=mm,x.getD B 0=vB,x.getD C 0=vC,wsv M=XM,wsv xs=XX,Qay (x) (pc) (c)=CC at *;unfold iv at jO
 by_cases YD:o≤13
 ·obtain rfl:=hV3 YD
  refine fnW Tryz.func48 ?_;(repeat' ((conv=>whnf);first|exact zi2|(refine zj0 ?_;intro hb)|refine QwF ?_|(apply Sd.mk; · first|exact ⟨gC,gS,rfl,(by show 0+C3.length≤25;omega)⟩|exact ⟨qO,jQ,rfl,(by show 0+C2.length≤CC.length;omega)⟩|(show (0:Int)≤B∧(B:Int)<16;omega)|(show (0:Int)≤C∧(C:Int)<16;omega)|(refine ⟨rfl,rfl,rfl,?_⟩;show 0+16+1≤C2.length;omega))|refine QDY ?_|refine zq1 ?_|((with_reducible apply Ge.mk (α:=SV)); · first|exact rB|exact rC|exact gpCC|exact gpC2)|(refine Qg3 hr ?_)|(refine QaD qJ ?_)|(refine zpu jO ?_)|(refine zpu gH ?_)|(refine zpu hal3 ?_)|(refine zpu gN ?_)|refine zse ?_|refine zbb ?_ ?_))
  all_goals exact QfL
 by_cases vG:o=24
 ·obtain rfl:=hVl vG
  refine fnW Tryz.func48 ?_;(repeat' ((conv=>whnf);first|exact zi2|(refine zj0 ?_;intro hb)|(with_reducible first|refine zv qm ?_|refine zv q4 ?_|refine zv q16 ?_)|(apply Sd.mk; · first|exact ⟨gC,gS,rfl,(by show 0+C3.length≤25;omega)⟩|exact ⟨qO,jQ,rfl,(by show 0+C2.length≤CC.length;omega)⟩|(refine ⟨rfl,rfl,rfl,?_⟩;show 0+16+1≤C2.length;omega))|refine QDY ?_|refine zq1 ?_|((with_reducible apply Ge.mk (α:=SV)); · first|exact gpCC|exact gpC2)|(refine Qg3 hr ?_)|(refine QaD qJ ?_)|(refine zpu jO ?_)|(refine zpu gH ?_)|(refine zpu gN ?_)|refine zse ?_|refine zbb ?_ ?_))
  all_goals exact QfL
 ·obtain rfl:=hVi (by omega)
  refine fnW Tryz.func48 ?_;(repeat' ((conv=>whnf);first|exact zi2|(refine zj0 ?_;intro hb)|refine QwF ?_|refine QGe ?_|refine QDY ?_|refine zq1 ?_|((with_reducible apply Ge.mk (α:=SV)); · first|exact rB|exact gpCC|exact gpC2)|(refine Qg3 hr ?_)|(refine QaD qJ ?_)|(refine zpu jO ?_)|(refine zpu gH ?_)|(refine zpu hali ?_)|(refine zpu gN ?_)|refine zse ?_|refine zbb ?_ ?_))
  all_goals exact QfL
theorem Qxr (x:List Nat) (pc:Nat) (c:List Nat) (xs:List Nat) (n:Nat) (hx:x.length=16) (hc:c.length=8):(exS x pc c xs n).x.length=16∧(exS x pc c xs n).c.length=8∧(exS x pc c xs n).m.length=xs.length∧Qau (exS x pc c xs n).e=true∧Qas (exS x pc c xs n).e=true∧(exS x pc c xs n).e.length=4:=by
 unfold exS;split
 ·exact ⟨hx,rfl,Qbl _ _ _ _ _ _ _,rfl,rfl,rfl⟩
 ·split
  ·exact ⟨hx,rfl,Qbl _ _ _ _ _ _ _,rfl,rfl,rfl⟩
  ·split
   ·exact ⟨hx,rfl,Qbl _ _ _ _ _ _ _,rfl,rfl,rfl⟩
   ·split
    ·refine ⟨by dsimp only;rw [QgM];exact hx,Qe0 _ _ _ _ hc,by dsimp only;rw [Qbl,Qbl],rfl,rfl,rfl⟩
    ·split
     ·refine ⟨hx,Qe0 _ _ _ _ hc,?_,rfl,rfl,rfl⟩
      dsimp only;unfold stX;split
      ·rw [Qcr,Qbl,Qbl]
      ·rw [Qbl,Qbl]
     ·exact ⟨by dsimp only;rw [Qec];exact hx,QhV _ _ _ _ _ _ hc,Qbl _ _ _ _ _ _ _,Qh4 _ _ _ _⟩
end Go.Proofs.YtflelebfmdggkaaGreat
