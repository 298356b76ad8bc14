import Derived.Test.YtpgkkfajljekpabGreatQ8
import Derived.Test.YtpgkkfajljekpabGreatQ16
import Derived.Test.YtpgkkfajljekpabGreatQ17
set_option linter.unusedSimpArgs false
set_option linter.unusedVariables false
set_option maxHeartbeats 0
set_option maxRecDepth 100000
namespace Go.Proofs.YtpgkkfajljekpabGreat
open Go Go.RowKit
theorem QfH (xs:List Nat) (n a:Nat) (hn:ZU n) (ha:ZU a):FN 144 [.s (.sl 0 0 n),.s (.u a),.s (.i 1)] [⟨false,1,wsv xs⟩] (. =⟨.a (.s (.bool (ld1 n a))),[],[]⟩):=by
 have hm:=QaT n;have hp:=Qck xs n hn;have gL:=Qaa xs;unfold ld1;generalize mpg n=P,wsv xs=XX at *;refine fnW Tryz.func144 ?_;(conv=>whnf);(repeat' ((first|exact zi0|refine zj0 fun hb=>?_|(refine QaA hp ?_)|refine zst ?_|refine zbb ?_ ?_)<;>conv=>whnf))
 all_goals
  refine QbT rfl gL rfl ?_;simp only [Qbc];congr 3;refine Eq.symm ?_
  first
   | (exact zdf (by omega))
   | (rw [zbi,zde,zde];omega)
theorem QlC (xs:List Nat) (n a:Nat) (sz:Int) (qA:sz=1\/sz=4) (hn:ZU n) (ha:ZU a):FN 144 [.s (.sl 0 0 n),.s (.u a),.s (.i sz)] [⟨false,1,wsv xs⟩] (. =⟨.a (.s (.bool (acB sz n a))),[],[]⟩):=by
 rcases qA with rfl|rfl
 .exact QfH xs n a hn ha
 .exact Qc6 xs n a hn ha
theorem Qfi (xs:List Nat) (n a:Nat) (hn:ZU n) (ha:ZU a) (hl:xs.length=n) (qU:ld4 n a=true):FN 87 [.s (.sl 0 0 n),.s (.u a),.s (.i 4)] [⟨false,1,wsv xs⟩] (. =⟨.tup [.s (.u (xs.getD (a / 4) 0:Nat)),.s (.bool true)],[],[]⟩):=by
 have hw:=Qc6 xs n a hn ha;rw [qU] at hw;have yZ:=Qeo qU;have hg:=QaZ xs (a / 4) (by omega);refine fnW Tryz.func87 ?_;(conv=>whnf);(repeat' ((first|exact zi0|refine zj0 fun hb=>?_|(refine Qag (f:=144) hw [⟨0,0⟩] [(0,⟨false,1,wsv xs⟩)] rfl ⟨rfl,trivial⟩ ⟨rfl,Qap (Qaa _),trivial⟩ ⟨rfl,Qbp⟩ ?_)|refine Qew ?_|refine Qww ?_|refine QAP ?_|refine zs0 ?_|refine zbb ?_ ?_)<;>conv=>whnf))
 all_goals first|exact QbT rfl (Qaa _) rfl rfl
theorem QHD (w a:Nat) (hw:ZU w):bits .and .u32 ((w:Int) / 2^min (((a%4*8:Nat):Int)).toNat IntKind.u32.bits) 255=((byN w a:Nat):Int):=QeK w (a%4*8) 8 hw (by omega) (by omega)
theorem at8 (a:Nat):IntKind.u32.wrap (8*((a%4:Nat):Int))=((a%4*8:Nat):Int):=by rw [Qe7 (by omega) (by omega)];omega
theorem QI4 (w:Int) (l:Nat):w / 2^min ((l:Nat):Int).toNat IntKind.u32.bits=w / 2^min ((l:Nat):Int).toNat IntKind.u32.bits:=rfl
theorem QnO (xs:List Nat) (n a:Nat) (hn:ZU n) (ha:ZU a) (hl:xs.length=n) (hx:ZL xs) (qU:ld1 n a=true):FN 87 [.s (.sl 0 0 n),.s (.u a),.s (.i 1)] [⟨false,1,wsv xs⟩] (. =⟨.tup [.s (.u (byN (xs.getD (a / 4) 0) a:Nat)),.s (.bool true)],[],[]⟩):=by
 have hw:=QfH xs n a hn ha;rw [qU] at hw;have yZ:=Qin qU;have hg:=QaZ xs (a / 4) (by omega);have wI:=QHD (xs.getD (a / 4) 0) a (QDn hx _);have h8:=at8 a;have KT:=QFy a;generalize xs.getD (a / 4) 0=W at *;have hsk:=QI4 (W:Int) (a%4*8);generalize byN W a=B,a%4*8=Q at *;generalize a%4=R4 at *;refine fnW Tryz.func87 ?_;(conv=>whnf);(repeat' ((first|exact zi0|refine zj0 fun hb=>?_|(refine Qag (f:=144) hw [⟨0,0⟩] [(0,⟨false,1,wsv xs⟩)] rfl ⟨rfl,trivial⟩ ⟨rfl,Qap (Qaa _),trivial⟩ ⟨rfl,Qbp⟩ ?_)|refine Qew ?_|refine Qww ?_|refine QAP ?_|(with_reducible first|refine zv KT ?_|refine zv h8 ?_|refine zv hsk ?_|refine zv wI ?_)|refine zs0 ?_|refine zbb ?_ ?_)<;>conv=>whnf))
 all_goals first|exact QbT rfl (Qaa _) rfl rfl
theorem Qui (xs:List Nat) (n a v:Nat) (ha:ZU a) (hl:xs.length=n) (qU:ld4 n a=true):FN 173 [.s (.sl 0 0 n),.s (.u a),.s (.i 4),.s (.u v)] [⟨true,1,wsv xs⟩] (. =⟨.tup [],[(0,some ⟨true,1,wsv (xs.set (a / 4) v)⟩)],[]⟩):=by
 have yZ:=Qeo qU;have fE:=QbA xs (a / 4) v (by omega);have uP:(wsv xs).length=n:=by simp [hl]
 have VJ:Qao (wsv (xs.set (a / 4) v))=true:=Qaa _;generalize wsv (xs.set (a / 4) v)=X2,wsv xs=M at *;refine fnW Tryz.func173 ?_;(repeat' ((conv=>whnf);first|exact zi0|refine zj0 fun hb=>?_|refine Qew ?_|(apply Sd.mk; . refine ⟨rfl,rfl,rfl,?_⟩;show _<=M.length;simp;omega)|refine Qww ?_|refine zq7 ?_|refine zs0 ?_|refine zbb ?_ ?_))
 all_goals exact Qb9
theorem Quh (xs:List Nat) (n a v:Nat) (ha:ZU a) (hl:xs.length=n) (qU:ld1 n a=true):FN 173 [.s (.sl 0 0 n),.s (.u a),.s (.i 1),.s (.u v)] [⟨true,1,wsv xs⟩] (. =⟨.tup [],[(0,some ⟨true,1,wsv (QnD xs a v)⟩)],[]⟩):=by
 have yZ:=Qin qU;have hg:=QaZ xs (a / 4) (by omega);have fE:=QbA xs (a / 4) (sfN (xs.getD (a / 4) 0) (a%4*8) v) (by omega);change QaC _ _ _=wsv (QnD xs a v) at fE;have GZ:=(Qgh (xs.getD (a / 4) 0) (a%4*8) v).symm;unfold sfI at GZ;have e1:IntKind.u32.wrap (255*2^min ((a%4*8:Nat):Int).toNat IntKind.u32.bits)=IntKind.u32.wrap (255*2^min ((a%4*8:Nat):Int).toNat IntKind.u32.bits):=rfl;have e2:IntKind.u32.wrap (bits .and .u32 (v:Int) 255*2^min ((a%4*8:Nat):Int).toNat IntKind.u32.bits)=IntKind.u32.wrap (bits .and .u32 (v:Int) 255*2^min ((a%4*8:Nat):Int).toNat IntKind.u32.bits):=rfl;have uP:(wsv xs).length=n:=by simp [hl]
 have VJ:Qao (wsv (QnD xs a v))=true:=Qaa _;have h8:=at8 a;have KT:=QFy a;generalize sfN (xs.getD (a / 4) 0) (a%4*8) v=V,wsv (QnD xs a v)=X2 at *;generalize xs.getD (a / 4) 0=W,wsv xs=M,a%4*8=Q at *;refine fnW Tryz.func173 ?_;(repeat' ((conv=>whnf);first|exact zi0|refine zj0 fun hb=>?_|refine Qew ?_|(apply Sd.mk; . refine ⟨rfl,rfl,rfl,?_⟩;show _<=M.length;simp;omega)|refine Qww ?_|refine QAP ?_|(with_reducible first|refine zv KT ?_|refine zv h8 ?_|refine zv e1 ?_|refine zv e2 ?_|refine zv GZ ?_)|refine zq7 ?_|refine zs0 ?_|refine zbb ?_ ?_))
 all_goals exact Qb9
theorem Qj4 (o:Int) (a b:Nat) (ha:ZU a) (fX:ZU b):FN 172 [.s (.i o),.s (.u a),.s (.u b)] [] (. =⟨.a (.s (.bool (Qdk o a b))),[],[]⟩):=by
 refine fnW Tryz.func172 ?_;exact QzY
theorem QIT (x:Nat) (hx:ZU x):bits .and .u32 (x:Int) (256-1)=((x%256:Nat):Int):=Qbm x 8 hx (by omega)
theorem QIU (x:Nat) (hx:x<256):(x:Int) / 2^min ((8:Int)-1).toNat IntKind.u32.bits=((x / 128:Nat):Int):=by
 rw [show (2:Int)^min ((8:Int)-1).toNat IntKind.u32.bits=128 from rfl];omega
theorem QIV (x:Nat) (hx:x<256):bits .or .u32 (x:Int) 4294967040=((x+4294967040:Nat):Int):=by
 have:=Qv6 x 4294967040 (by omega) (by omega)
 have e:x ||| 4294967040=x+4294967040:=by
  rw [Nat.or_comm,show 4294967040=2^8*16777215 from rfl,<- Nat.two_pow_add_eq_or_of_lt (i:=8) (show x<2^8 by omega)];omega
 rw [e] at this;exact this
theorem Qy5 (x:Nat) (hx:ZU x):FN 174 [.s (.u x),.s (.i 8)] [] (. =⟨.a (.s (.u (sx8 x:Nat))),[],[]⟩):=by
 have r1:=QIT x hx;have r2:=QIU (x%256) (by omega);have r3:=QIV (x%256) (by omega);have m1:IntKind.u32.wrap (1*2^min (Int.toNat 8) IntKind.u32.bits)=256:=rfl;have m2:IntKind.u32.wrap (4294967295*2^min (Int.toNat 8) IntKind.u32.bits)=4294967040:=rfl;refine fnW Tryz.func174 ?_;(conv=>whnf);(repeat' ((first|exact zi0|refine zj0 fun hb=>?_|(with_reducible first|refine zv r1 ?_|refine zv r2 ?_|refine zv r3 ?_|refine zv m1 ?_|refine zv m2 ?_)|refine zs0 ?_|refine zbb ?_ ?_)<;>conv=>whnf))
 all_goals
  refine Qam rfl ?_;simp only [Qbc,sx8]
  first
   | (rw [zP (by omega)];done)
   | (rw [zN (by omega)];done)
theorem Qg4 (x:List Nat) (pc:Nat) (c:List Nat) (r v:Nat) (hx:x.length=16) (hc:c.length=8) (hr:r<16):FN 56 [.agg (Qay x pc c),.s (.i r),.s (.u v)] [] (. =⟨.a (.agg (Qay (QaD x r v) pc c)),[],[]⟩):=by
 have hw:=Qia x pc c r v hx hr;have gT:=Qar (x) (pc) (c) hx hc;have jJ:=Qal (x) (pc) (c);have qN:=Qah (x) (pc) (c);have qR:=Qai gT;have gpCC:=QaB (x) (pc) (c) hx;have qM:=Qar (x.set r v) (pc) (c) (by simpa using hx) hc;have uY:=Qal (x.set r v) (pc) (c);have jP:=Qah (x.set r v) (pc) (c);have wQ:=Qai qM;have gpC2:=QaB (x.set r v) (pc) (c) (by simpa using hx);unfold QaD
 by_cases h:r=0
 .rw [zP h]
  subst h;generalize Qay (x) (pc) (c)=CC at *;refine fnW Tryz.func56 ?_;(repeat' ((conv=>whnf);first|exact zi2|refine zj0 fun hb=>?_|(apply Sd.mk; . exact ⟨gT,qN,rfl,(by show 0+CC.length<=25;omega)⟩)|((with_reducible apply Vl.mk (α:=List SV)); . first|exact qR _ (by first|rfl|assumption))|(apply Sg.mk; . first|exact Qa7 CC gT)|refine zse ?_|refine zbb ?_ ?_))
  all_goals exact zF_
 .rw [zN h]
  generalize Qay (x.set r v) (pc) (c)=C2,Qay (x) (pc) (c)=CC at *;refine fnW Tryz.func56 ?_;(repeat' ((conv=>whnf);first|exact zi2|refine zj0 fun hb=>?_|(apply Sd.mk; . first|exact ⟨qM,jP,rfl,(by show 0+C2.length<=25;omega)⟩|(show (0:Int)<=r/\(r:Int)<16;omega)|(refine ⟨rfl,rfl,rfl,?_⟩;show r+1<=CC.length;omega))|((with_reducible apply Vl.mk (α:=List SV)); . first|exact hw|exact wQ _ (by first|rfl|assumption))|(apply Sg.mk; . exact Qa7 C2 qM)|refine zse ?_|refine zbb ?_ ?_))
  all_goals exact zF_
theorem QA0 (a:Nat) (ha:ZU a):bits .and .u32 (a:Int) 5=((a%2+a / 4%2*4:Nat):Int):=by
 rw [show ((5:Int))=((5:Nat):Int) from rfl,QcF a 5 ha (by omega)];obtain ⟨h,l,hl,rfl⟩:=QhR a;rw [QgM h l 5 hl (by decide)];have e:∀ l:Nat,l<32->l &&& 5=l%2+l / 4%2*4:=by decide
 rw [e l hl];congr 1;omega
theorem QrG (x:List Nat) (pc:Nat) (c:List Nat) (hx:x.length=16) (hc:c.length=8) (hs:c.getD 0 0<4294967296):FN 166 [.agg (Qay x pc c)] [] (. =⟨.a (.s (.bool (Qdf (c.getD 0 0)))),[],[]⟩):=by
 have g0:=Qdu x pc c 0 hx hc (by decide);have b5:=QA0 (c.getD 0 0) hs;have gT:=Qar (x) (pc) (c) hx hc;have jJ:=Qal (x) (pc) (c);have qN:=Qah (x) (pc) (c);have qR:=Qai gT;have gpCC:=QaB (x) (pc) (c) hx;generalize c.getD 0 0=S,Qay (x) (pc) (c)=CC at *
 obtain ⟨T,hT,hP⟩:∃ T:Nat,S%2+S / 4%2*4=T/\(((T:Nat):Int)==4)=Qdf S:=by
  refine ⟨_,rfl,?_⟩;unfold Qdf;rw [zbi,beq_iff_eq,zde];omega
 rw [hT] at b5;rw [<- hP];refine fnW Tryz.func166 ?_;(repeat' ((conv=>whnf);first|exact zi0|refine zj0 fun hb=>?_|(with_reducible refine zv b5 ?_)|refine Qm7 ?_|refine zst ?_|refine zbb ?_ ?_))
 all_goals exact zf_
theorem Qg3 (x:List Nat) (pc:Nat) (c:List Nat) (xs:List Nat) (n va:Nat) (sz ac:Int) (hx:x.length=16) (hc:c.length=8) (gK:ZL c) (hl:xs.length=n) (hY:ZL xs) (hn:ZU n) (gX:ZU va) :
  FN 97 [.agg (Qay x pc c),.s (.sl 0 0 n),.s (.u va),.s (.i sz),.s (.i ac)] [⟨true,1,wsv xs⟩]
   (. =⟨.tup [.s (.u (rsA xs n (c.getD 0 0) (c.getD 6 0) va sz ac:Nat)),.s (.i (rsK xs n (c.getD 0 0) (c.getD 6 0) va sz ac))],[(0,some ⟨true,1,wsv (rsM xs n (c.getD 0 0) (c.getD 6 0) va sz ac)⟩)],[]⟩):=by
 have hs:=Qab gK 0;have hr:=Qab gK 6;have hk:=QrG x pc c hx hc hs;have g0:=Qdu x pc c 0 hx hc (by decide);have g6:=Qdu x pc c 6 hx hc (by decide);have UN:=Qar x pc c hx hc;have hCs:=Qal x pc c;have hCk:=Qah x pc c;have zJ:=QjV ac;have vJ:=Qj0 ac;have hz0:=Qai UN;generalize c.getD 0 0=S,c.getD 6 0=R,Qay x pc c=C at *;have hw:=QrO xs n R va ac hl hn hY hr gX;have gL:=Qaa xs;clear gK hx hc
 by_cases wD:QdP ac=true/\szB sz=true
 case neg =>
  have e1:rsO xs n S R va sz ac=false:=by
   unfold rsO
   cases h:QdP ac with
   | false=>rfl
   | true =>
    cases h2:szB sz with
    | false=>rfl
    | true=>exact absurd ⟨h,h2⟩ wD
  have e2:QdP ac=false\/szB sz=false:=by
   cases h:QdP ac with
   | false=>exact .inl rfl
   | true =>
    cases h2:szB sz with
    | false=>exact .inr rfl
    | true=>exact absurd ⟨h,h2⟩ wD
  rw [show rsA xs n S R va sz ac=0 by unfold rsA;rw [e1];rfl,show rsM xs n S R va sz ac=xs by unfold rsM;rw [e1];exact zN (fun h=>by cases h.1),show rsK xs n S R va sz ac=5 by unfold rsK;rw [e1,zN (by decide),zP e2]];have hz:szB sz=false->sz≠1/\sz≠4:=fun h=>by unfold szB at h;simpa using h
  generalize QdP ac=kb,wsv xs=XX at *
  cases kb with
  | false =>
   clear hw hz;refine fnW Tryz.func97 ?_;(conv=>whnf);(repeat' ((first|exact zi2|refine zj0 fun hb=>?_|(refine zpu vJ ?_)|refine zse ?_|refine zbb ?_ ?_)<;>conv=>whnf))
   all_goals first|(exact Qb9)
  | true =>
   obtain ⟨_,_⟩:=hz (by rcases e2 with h|h;cases h;exact h);clear hw;refine fnW Tryz.func97 ?_;(repeat' ((conv=>whnf);first|exact zi2|refine zj0 fun hb=>?_|(refine zpu vJ ?_)|refine zse ?_|refine zbb ?_ ?_))
   all_goals exact Qet
 obtain ⟨k1,k2⟩:=wD;rw [k1] at vJ;have qA:sz=1\/sz=4:=by unfold szB at k2;simpa using k2
 by_cases gY:(va:Int)%sz=0
 case neg =>
  have e1:rsO xs n S R va sz ac=false:=by unfold rsO;rw [zdf gY,Bool.and_false];rfl
  rw [show rsA xs n S R va sz ac=0 by unfold rsA;rw [e1];rfl,show rsM xs n S R va sz ac=xs by unfold rsM;rw [e1];exact zN (fun h=>by cases h.1),show rsK xs n S R va sz ac=3 by unfold rsK;rw [e1,zN (by decide),zN (by rw [k1,k2];simp),zN gY]];obtain rfl:sz=4:=by rcases qA with rfl|rfl;omega;rfl
  have m1:Int.tmod (va:Int) 4=((va%4:Nat):Int):=Qvg;have m2:va%4≠0:=by omega
  generalize va%4=va4,wsv xs=XX at *;clear hw;refine fnW Tryz.func97 ?_;(repeat' ((conv=>whnf);first|exact zi2|refine zj0 fun hb=>?_|(with_reducible refine zv m1 ?_)|(refine zpu vJ ?_)|refine zse ?_|refine zbb ?_ ?_))
  all_goals exact Qet
 have qJ:=QlC xs n va sz qA hn gX;have m0:Int.tmod (va:Int) sz=0:=by rw [Int.tmod_eq_emod_of_nonneg (by omega)];exact gY
 cases qE:Qdf S with
 | true =>
  obtain ⟨_,_⟩:S%2=0/\S / 4%2=1:=by unfold Qdf at qE;simpa using qE
  rw [qE] at hk
  cases hok:Qbo xs n R va ac with
  | false =>
   have e1:rsO xs n S R va sz ac=false:=by unfold rsO;rw [qE,hok];simp
   rw [show rsA xs n S R va sz ac=0 by unfold rsA;rw [e1];rfl,show rsM xs n S R va sz ac=xs by unfold rsM;rw [e1];exact zN (fun h=>by cases h.1),show rsK xs n S R va sz ac=Qcv ac by unfold rsK;rw [e1,zN (by decide),zN (by rw [k1,k2];simp),zP gY]];unfold QfK at hw;rw [hok,zN (by decide)] at hw;have FR:Qcv ac≠0:=by unfold Qcv;split;omega;split<;>omega
   generalize Qcv ac=cz,wsv xs=XX at *;rcases qA with rfl|rfl
   all_goals
    refine fnW Tryz.func97 ?_;(conv=>whnf);(repeat' ((first|exact zi2|refine zj0 fun hb=>?_|(with_reducible refine zv m0 ?_)|((with_reducible apply Ge.mk (α:=SV)); . exact g6)|refine QAR ?_|(refine zpu hk ?_)|(refine QaA hw ?_)|(refine zpu vJ ?_)|refine zse ?_|refine zbb ?_ ?_)<;>conv=>whnf))
    all_goals first|(exact Qb9)
  | true =>
   have e1:rsO xs n S R va sz ac=true:=by unfold rsO;rw [qE,hok,k1,k2,zdt gY];rfl
   obtain ⟨l1,l2,_⟩:=Qwp hok hn;have htc:=Qt4 xs n (Qa9 R va) ac hl hn hY l2 l1;rw [show rsA xs n S R va sz ac=frW (QaR xs R va)*128+va%128 by unfold rsA;rw [e1,zP rfl,qE,zP rfl],show rsM xs n S R va sz ac=xs.set (Qa9 R va / 4) (QbK (xs.getD (Qa9 R va / 4) 0) ac) by unfold rsM;rw [e1,qE];exact zP ⟨rfl,rfl⟩,show rsK xs n S R va sz ac=0 by unfold rsK;rw [e1,zP rfl]];unfold QfK at hw;rw [hok,zP rfl] at hw;have gO:=Qaa (xs.set (Qa9 R va / 4) (QbK (xs.getD (Qa9 R va / 4) 0) ac));generalize wsv (xs.set (Qa9 R va / 4) (QbK (xs.getD (Qa9 R va / 4) 0) ac))=X2 at *;generalize Qa9 R va=E,frW (QaR xs R va)*128+va%128=AA,Qcv ac=cz,wsv xs=XX at *;rcases qA with rfl|rfl
   all_goals
    refine fnW Tryz.func97 ?_;(conv=>whnf);(repeat' ((first|exact zi2|refine zj0 fun hb=>?_|(with_reducible refine zv m0 ?_)|((with_reducible apply Ge.mk (α:=SV)); . exact g6)|refine QAR ?_|(refine zpu hk ?_)|(refine QaA hw ?_)|(refine zpu vJ ?_)|(refine Qhq htc ?_)|refine zse ?_|refine zbb ?_ ?_)<;>conv=>whnf))
    all_goals first|(exact Qb9)
 | false =>
  have hnp:S%2=1\/(S%2=0/\S / 4%2=0):=by unfold Qdf at qE;simp at qE;omega
  have eM:rsM xs n S R va sz ac=xs:=by unfold rsM;rw [qE];exact zN (fun h=>by cases h.2)
  have eO:rsO xs n S R va sz ac=acB sz n va:=by unfold rsO;rw [qE,k1,k2,zdt gY];simp
  have eA:rsA xs n S R va sz ac=if acB sz n va=true then va else 0:=by unfold rsA;rw [eO,qE];simp
  have eK:rsK xs n S R va sz ac=if acB sz n va=true then 0 else Qcv ac:=QEc
  rw [eM,eA,eK];clear eM eO eA eK hw;generalize Qcv ac=cz,acB sz n va=ok,wsv xs=XX at *;rw [qE] at hk;cases ok<;>rcases qA with rfl|rfl
  all_goals
   refine fnW Tryz.func97 ?_;(repeat' ((conv=>whnf);first|exact zi2|refine zj0 fun hb=>?_|(with_reducible refine zv m0 ?_)|refine QAR ?_|(refine zpu zJ ?_)|(refine zpu hk ?_)|(refine QaA qJ ?_)|(refine zpu vJ ?_)|refine zse ?_|refine zbb ?_ ?_))
   all_goals exact Qet
theorem QnN (x:List Nat) (pc:Nat) (c:List Nat) (o:Int) (A B C:Nat) (m:Int) (hx:x.length=16) (hc:c.length=8) (hY:ZL x) (gA:ZL c) (gR:ZU pc) (hA:A<16) (hB:B<16) (hC:C<16) (hm:o=58->0<=m/\m<8) (gB: -32768<=m/\m<=65535) (ho:(40<=o/\o<=45)/\Qdk o (x.getD A 0) (x.getD B 0)=true) :
  FN 100 [.agg (Qay x pc c),.agg (iv o A B C m)] [] (. =⟨.a (.agg (Qay (exX x pc c o A B C m) (exP x pc c o A B m) (exC x pc c o A m))),[],[]⟩):=by
 have eX:exX x pc c o A B C m=x:=QcO;have eP:exP x pc c o A B m=w32 ((pc:Int)+w32 (4*(w32 m:Nat))):=Qvi;have eC:exC x pc c o A m=c:=Qci;rw [eX,eP,eC];have rA:=Qav x pc c A hx hA;have rB:=Qav x pc c B hx hB;have rC:=Qav x pc c C hx hC;have qm:IntKind.u32.wrap m=((w32 m:Nat):Int):=Qau m;have q4:IntKind.u32.wrap ((pc:Int)+4)=((w32 ((pc:Int)+4):Nat):Int):=Qau _;have q4m:IntKind.u32.wrap (4*((w32 m:Nat):Int))=((w32 (4*(w32 m:Nat)):Nat):Int):=Qau _;have xA:=Qab hY A;have xB:=Qab hY B;have lm:=QaG m;have gT:=Qar (x) (pc) (c) hx hc;have jJ:=Qal (x) (pc) (c);have qN:=Qah (x) (pc) (c);have qR:=Qai gT;have gpCC:=QaB (x) (pc) (c) hx;obtain ⟨PP,qQ⟩:∃ PP,w32 ((pc:Int)+w32 (4*(w32 m:Nat)))=PP:=⟨_,rfl⟩;rw [qQ];have qT:IntKind.u32.wrap ((pc:Int)+((w32 (4*(w32 m:Nat)):Nat):Int))=(PP:Int):=by rw [Qau,qQ]
 have jT:=Qj4 o (x.getD A 0) (x.getD B 0) xA xB;rw [ho.2] at jT;replace ho:=ho.1;have qZ:=QaP x pc c PP hx;have gC:=Qar (x) (PP) (c) hx hc;have fZ:=Qal (x) (PP) (c);have gS:=Qah (x) (PP) (c);have fH:=Qai gC;have gpC3:=QaB (x) (PP) (c) hx;generalize Qay (x) (PP) (c)=C3 at *;clear eX eP eC;generalize x.getD A 0=vA,x.getD B 0=vB,x.getD C 0=vC,Qay (x) (pc) (c)=CC,w32 (4*((w32 m:Nat):Int))=m4 at *;generalize w32 m=mm,w32 ((pc:Int)+4)=p4 at *;refine fnW Tryz.func100 ?_;(repeat' ((conv=>whnf);first|exact zi2|refine zj0 fun hb=>?_|refine QFf ?_|refine zq9 ?_|refine QFc ?_|(apply Sg.mk; . exact Qa7 C3 gC)|refine QFi ?_|(refine zpu jT ?_)|refine zse ?_|refine zbb ?_ ?_))
 all_goals exact zF_
theorem Qlw (x:List Nat) (pc:Nat) (c:List Nat) (o:Int) (A B C:Nat) (m:Int) (hx:x.length=16) (hc:c.length=8) (hY:ZL x) (gA:ZL c) (gR:ZU pc) (hA:A<16) (hB:B<16) (hC:C<16) (hm:o=58->0<=m/\m<8) (gB: -32768<=m/\m<=65535) (ho:(40<=o/\o<=45)/\Qdk o (x.getD A 0) (x.getD B 0)=false) :
  FN 100 [.agg (Qay x pc c),.agg (iv o A B C m)] [] (. =⟨.a (.agg (Qay (exX x pc c o A B C m) (exP x pc c o A B m) (exC x pc c o A m))),[],[]⟩):=by
 have eX:exX x pc c o A B C m=x:=QcO;have eP:exP x pc c o A B m=w32 ((pc:Int)+4):=Qvi;have eC:exC x pc c o A m=c:=Qci;rw [eX,eP,eC];have rA:=Qav x pc c A hx hA;have rB:=Qav x pc c B hx hB;have rC:=Qav x pc c C hx hC;have qm:IntKind.u32.wrap m=((w32 m:Nat):Int):=Qau m;have q4:IntKind.u32.wrap ((pc:Int)+4)=((w32 ((pc:Int)+4):Nat):Int):=Qau _;have q4m:IntKind.u32.wrap (4*((w32 m:Nat):Int))=((w32 (4*(w32 m:Nat)):Nat):Int):=Qau _;have xA:=Qab hY A;have xB:=Qab hY B;have lm:=QaG m;have gT:=Qar (x) (pc) (c) hx hc;have jJ:=Qal (x) (pc) (c);have qN:=Qah (x) (pc) (c);have qR:=Qai gT;have gpCC:=QaB (x) (pc) (c) hx;obtain ⟨PP,qQ⟩:∃ PP,w32 ((pc:Int)+4)=PP:=⟨_,rfl⟩;rw [qQ];rw [qQ] at q4;have jT:=Qj4 o (x.getD A 0) (x.getD B 0) xA xB;rw [ho.2] at jT;replace ho:=ho.1;have qZ:=QaP x pc c PP hx;have gC:=Qar (x) (PP) (c) hx hc;have fZ:=Qal (x) (PP) (c);have gS:=Qah (x) (PP) (c);have fH:=Qai gC;have gpC3:=QaB (x) (PP) (c) hx;generalize Qay (x) (PP) (c)=C3 at *;clear eX eP eC;generalize x.getD A 0=vA,x.getD B 0=vB,x.getD C 0=vC,Qay (x) (pc) (c)=CC,w32 (4*((w32 m:Nat):Int))=m4 at *;generalize w32 m=mm,w32 ((pc:Int)+4)=p4 at *;refine fnW Tryz.func100 ?_;(repeat' ((conv=>whnf);first|exact zi2|refine zj0 fun hb=>?_|(with_reducible refine zv q4 ?_)|refine zq9 ?_|refine QFc ?_|(apply Sg.mk; . exact Qa7 C3 gC)|refine QFi ?_|(refine zpu jT ?_)|refine zse ?_|refine zbb ?_ ?_))
 all_goals exact zF_
theorem QCK (x:List Nat) (pc:Nat) (c:List Nat) (o:Int) (A B C:Nat) (m:Int) (hx:x.length=16) (hc:c.length=8) (hY:ZL x) (gA:ZL c) (gR:ZU pc) (hA:A<16) (hB:B<16) (hC:C<16) (hm:o=58->0<=m/\m<8) (gB: -32768<=m/\m<=65535) (ho:o=48) :
  FN 100 [.agg (Qay x pc c),.agg (iv o A B C m)] [] (. =⟨.a (.agg (Qay (exX x pc c o A B C m) (exP x pc c o A B m) (exC x pc c o A m))),[],[]⟩):=by
 have eX:exX x pc c o A B C m=QaD x A (w32 ((pc:Int)+4)):=Qvb;have eP:exP x pc c o A B m=w32 ((pc:Int)+w32 (4*(w32 m:Nat))):=by unfold exP;rw [zN (by omega),zP (by omega)]
 have eC:exC x pc c o A m=c:=Qci;rw [eX,eP,eC];have rA:=Qav x pc c A hx hA;have rB:=Qav x pc c B hx hB;have rC:=Qav x pc c C hx hC;have qm:IntKind.u32.wrap m=((w32 m:Nat):Int):=Qau m;have q4:IntKind.u32.wrap ((pc:Int)+4)=((w32 ((pc:Int)+4):Nat):Int):=Qau _;have q4m:IntKind.u32.wrap (4*((w32 m:Nat):Int))=((w32 (4*(w32 m:Nat)):Nat):Int):=Qau _;have xA:=Qab hY A;have xB:=Qab hY B;have lm:=QaG m;have gT:=Qar (x) (pc) (c) hx hc;have jJ:=Qal (x) (pc) (c);have qN:=Qah (x) (pc) (c);have qR:=Qai gT;have gpCC:=QaB (x) (pc) (c) hx;obtain ⟨V,hV⟩:∃ V,w32 ((pc:Int)+4)=V:=⟨_,rfl⟩;obtain ⟨PP,qQ⟩:∃ PP,w32 ((pc:Int)+w32 (4*(w32 m:Nat)))=PP:=⟨_,rfl⟩;rw [hV,qQ];rw [hV] at q4;have qT:IntKind.u32.wrap ((pc:Int)+((w32 (4*(w32 m:Nat)):Nat):Int))=(PP:Int):=by rw [Qau,qQ]
 exact QIp
theorem QyM (x:List Nat) (pc:Nat) (c:List Nat) (o:Int) (A B C:Nat) (m:Int) (hx:x.length=16) (hc:c.length=8) (hY:ZL x) (gA:ZL c) (gR:ZU pc) (hA:A<16) (hB:B<16) (hC:C<16) (hm:o=58->0<=m/\m<8) (gB: -32768<=m/\m<=65535) (ho:o=49) :
  FN 100 [.agg (Qay x pc c),.agg (iv o A B C m)] [] (. =⟨.a (.agg (Qay (exX x pc c o A B C m) (exP x pc c o A B m) (exC x pc c o A m))),[],[]⟩):=by
 have eX:exX x pc c o A B C m=QaD x A (w32 ((pc:Int)+4)):=Qvb;have eP:exP x pc c o A B m=w32 ((x.getD B 0:Nat)+(w32 m:Nat)):=by unfold exP;rw [zN (by omega),zN (by omega),zP (by omega)]
 have eC:exC x pc c o A m=c:=Qci;rw [eX,eP,eC];have rA:=Qav x pc c A hx hA;have rB:=Qav x pc c B hx hB;have rC:=Qav x pc c C hx hC;have qm:IntKind.u32.wrap m=((w32 m:Nat):Int):=Qau m;have q4:IntKind.u32.wrap ((pc:Int)+4)=((w32 ((pc:Int)+4):Nat):Int):=Qau _;have q4m:IntKind.u32.wrap (4*((w32 m:Nat):Int))=((w32 (4*(w32 m:Nat)):Nat):Int):=Qau _;have xA:=Qab hY A;have xB:=Qab hY B;have lm:=QaG m;have gT:=Qar (x) (pc) (c) hx hc;have jJ:=Qal (x) (pc) (c);have qN:=Qah (x) (pc) (c);have qR:=Qai gT;have gpCC:=QaB (x) (pc) (c) hx;obtain ⟨V,hV⟩:∃ V,w32 ((pc:Int)+4)=V:=⟨_,rfl⟩;obtain ⟨PP,qQ⟩:∃ PP,w32 ((x.getD B 0:Nat)+(w32 m:Nat))=PP:=⟨_,rfl⟩;rw [hV,qQ];rw [hV] at q4;have qT:IntKind.u32.wrap (((x.getD B 0:Nat):Int)+((w32 m:Nat):Int))=(PP:Int):=by rw [Qau,qQ]
 exact QIp
theorem QuA (x:List Nat) (pc:Nat) (c:List Nat) (o:Int) (A B C:Nat) (m:Int) (hx:x.length=16) (hc:c.length=8) (hY:ZL x) (gA:ZL c) (gR:ZU pc) (hA:A<16) (hB:B<16) (hC:C<16) (hm:o=58->0<=m/\m<8) (gB: -32768<=m/\m<=65535) (ho:o=56) :
  FN 99 [.agg (Qay x pc c),.agg (iv o A B C m)] [] (. =⟨.tup [.agg (Qay (exX x pc c o A B C m) (exP x pc c o A B m) (exC x pc c o A m)),.agg (exE x o A m)],[],[]⟩):=by
 have eX:exX x pc c o A B C m=x:=QcO;have eP:exP x pc c o A B m=c.getD 1 0:=QEe;have eC:exC x pc c o A m=trL pc c 7 0:=by unfold exC;rw [zP (by omega)]
 have eE:exE x o A m= [.i 0,.i 0,.i 0,.u (0:Nat)]:=Qd1;rw [eX,eP,eC,eE];have rA:=Qav x pc c A hx hA;have rB:=Qav x pc c B hx hB;have rC:=Qav x pc c C hx hC;have qm:IntKind.u32.wrap m=((w32 m:Nat):Int):=Qau m;have q4:IntKind.u32.wrap ((pc:Int)+4)=((w32 ((pc:Int)+4):Nat):Int):=Qau _;have q4m:IntKind.u32.wrap (4*((w32 m:Nat):Int))=((w32 (4*(w32 m:Nat)):Nat):Int):=Qau _;have xA:=Qab hY A;have xB:=Qab hY B;have lm:=QaG m;have gT:=Qar (x) (pc) (c) hx hc;have jJ:=Qal (x) (pc) (c);have qN:=Qah (x) (pc) (c);have qR:=Qai gT;have gpCC:=QaB (x) (pc) (c) hx;have fW:=Qc5 x pc c 7 0 hx hc gA;rw [Qbn] at fW;have gC:=Qar (x) (c.getD 1 0) (trL pc c 7 0) hx (by first|rfl|simpa using hc);have fZ:=Qal (x) (c.getD 1 0) (trL pc c 7 0);have gS:=Qah (x) (c.getD 1 0) (trL pc c 7 0);have fH:=Qai gC;have gpC3:=QaB (x) (c.getD 1 0) (trL pc c 7 0) hx;generalize Qay (x) (c.getD 1 0) (trL pc c 7 0)=C3 at *;exact QIs
theorem QyW (x:List Nat) (pc:Nat) (c:List Nat) (o:Int) (A B C:Nat) (m:Int) (hx:x.length=16) (hc:c.length=8) (hY:ZL x) (gA:ZL c) (gR:ZU pc) (hA:A<16) (hB:B<16) (hC:C<16) (hm:o=58->0<=m/\m<8) (gB: -32768<=m/\m<=65535) (ho:o=57) :
  FN 99 [.agg (Qay x pc c),.agg (iv o A B C m)] [] (. =⟨.tup [.agg (Qay (exX x pc c o A B C m) (exP x pc c o A B m) (exC x pc c o A m)),.agg (exE x o A m)],[],[]⟩):=by
 have eX:exX x pc c o A B C m=x:=QcO;have eP:exP x pc c o A B m=c.getD 2 0:=QD9;have eC:exC x pc c o A m=c.set 0 (QgZ (c.getD 0 0)):=by unfold exC;rw [zN (by omega),zP (by omega)]
 have eE:exE x o A m= [.i 0,.i 0,.i 0,.u (0:Nat)]:=Qd1;rw [eX,eP,eC,eE];have rA:=Qav x pc c A hx hA;have rB:=Qav x pc c B hx hB;have rC:=Qav x pc c C hx hC;have qm:IntKind.u32.wrap m=((w32 m:Nat):Int):=Qau m;have q4:IntKind.u32.wrap ((pc:Int)+4)=((w32 ((pc:Int)+4):Nat):Int):=Qau _;have q4m:IntKind.u32.wrap (4*((w32 m:Nat):Int))=((w32 (4*(w32 m:Nat)):Nat):Int):=Qau _;have xA:=Qab hY A;have xB:=Qab hY B;have lm:=QaG m;have gT:=Qar (x) (pc) (c) hx hc;have jJ:=Qal (x) (pc) (c);have qN:=Qah (x) (pc) (c);have qR:=Qai gT;have gpCC:=QaB (x) (pc) (c) hx;have fW:=QyR x pc c hx hc gA;unfold QE4 at fW;have gC:=Qar (x) (c.getD 2 0) (c.set 0 (QgZ (c.getD 0 0))) hx (by first|rfl|simpa using hc);have fZ:=Qal (x) (c.getD 2 0) (c.set 0 (QgZ (c.getD 0 0)));have gS:=Qah (x) (c.getD 2 0) (c.set 0 (QgZ (c.getD 0 0)));have fH:=Qai gC;have gpC3:=QaB (x) (c.getD 2 0) (c.set 0 (QgZ (c.getD 0 0))) hx;generalize Qay (x) (c.getD 2 0) (c.set 0 (QgZ (c.getD 0 0)))=C3 at *;exact QIs
theorem QyU (x:List Nat) (pc:Nat) (c:List Nat) (o:Int) (A B C:Nat) (m:Int) (hx:x.length=16) (hc:c.length=8) (hY:ZL x) (gA:ZL c) (gR:ZU pc) (hA:A<16) (hB:B<16) (hC:C<16) (hm:o=58->0<=m/\m<8) (gB: -32768<=m/\m<=65535) (ho:o=58) :
  FN 99 [.agg (Qay x pc c),.agg (iv o A B C m)] [] (. =⟨.tup [.agg (Qay (exX x pc c o A B C m) (exP x pc c o A B m) (exC x pc c o A m)),.agg (exE x o A m)],[],[]⟩):=by
 have eX:exX x pc c o A B C m=QaD x A (c.getD m.toNat 0):=QD8;have eP:exP x pc c o A B m=w32 ((pc:Int)+4):=Qdh;have eC:exC x pc c o A m=c:=Qci;have eE:exE x o A m= [.i 0,.i 0,.i 0,.u (0:Nat)]:=Qd1;rw [eX,eP,eC,eE];have rA:=Qav x pc c A hx hA;have rB:=Qav x pc c B hx hB;have rC:=Qav x pc c C hx hC;have qm:IntKind.u32.wrap m=((w32 m:Nat):Int):=Qau m;have q4:IntKind.u32.wrap ((pc:Int)+4)=((w32 ((pc:Int)+4):Nat):Int):=Qau _;have q4m:IntKind.u32.wrap (4*((w32 m:Nat):Int))=((w32 (4*(w32 m:Nat)):Nat):Int):=Qau _;have xA:=Qab hY A;have xB:=Qab hY B;have lm:=QaG m;have gT:=Qar (x) (pc) (c) hx hc;have jJ:=Qal (x) (pc) (c);have qN:=Qah (x) (pc) (c);have qR:=Qai gT;have gpCC:=QaB (x) (pc) (c) hx;obtain ⟨V,hV⟩:∃ V,c.getD m.toNat 0=V:=⟨_,rfl⟩;obtain ⟨PP,qQ⟩:∃ PP,w32 ((pc:Int)+4)=PP:=⟨_,rfl⟩;rw [hV,qQ];rw [qQ] at q4;have hm8:=hm ho;have rM:=Qdu x pc c m.toNat hx hc (by omega);rw [hV] at rM;have gN:=Qg4 x pc c A V hx hc hA;have qZ:=QaP (QaD x A V) pc c PP (by rw [Qaz];exact hx);have qM:=Qar (QaD x A V) (pc) (c) (by rw [Qaz];exact hx) hc;have uY:=Qal (QaD x A V) (pc) (c);have jP:=Qah (QaD x A V) (pc) (c);have wQ:=Qai qM;have gpC2:=QaB (QaD x A V) (pc) (c) (by rw [Qaz];exact hx);have gC:=Qar (QaD x A V) (PP) (c) (by rw [Qaz];exact hx) hc;have fZ:=Qal (QaD x A V) (PP) (c);have gS:=Qah (QaD x A V) (PP) (c);have fH:=Qai gC;have gpC3:=QaB (QaD x A V) (PP) (c) (by rw [Qaz];exact hx);generalize Qay (QaD x A V) (PP) (c)=C3,Qay (QaD x A V) (pc) (c)=C2 at *;clear eX eP eC eE;generalize x.getD A 0=vA,x.getD B 0=vB,x.getD C 0=vC,Qay (x) (pc) (c)=CC,w32 (4*((w32 m:Nat):Int))=m4 at *;generalize w32 m=mm,w32 ((pc:Int)+4)=p4 at *;refine fnW Tryz.func99 ?_;(repeat' ((conv=>whnf);first|exact zi2|refine zj0 fun hb=>?_|(with_reducible refine zv q4 ?_)|(apply Sd.mk; . first|exact ⟨gC,gS,rfl,(by show 0+C3.length<=25;omega)⟩|exact ⟨qM,jP,rfl,(by show 0+C2.length<=CC.length;omega)⟩|(show (0:Int)<=m/\m<(8:Int);omega)|(refine ⟨rfl,rfl,rfl,?_⟩;show 0+16+1<=C2.length;omega))|refine QH6 ?_|refine zq1 ?_|((with_reducible apply Ge.mk (α:=SV)); . first|exact rM|exact gpC2)|(refine zpu gN ?_)|refine zse ?_|refine zbb ?_ ?_))
 all_goals exact zF_
theorem QyV (x:List Nat) (pc:Nat) (c:List Nat) (o:Int) (A B C:Nat) (m:Int) (hx:x.length=16) (hc:c.length=8) (hY:ZL x) (gA:ZL c) (gR:ZU pc) (hA:A<16) (hB:B<16) (hC:C<16) (hm:o=58->0<=m/\m<8) (gB: -32768<=m/\m<=65535) (ho:o=59) :
  FN 99 [.agg (Qay x pc c),.agg (iv o A B C m)] [] (. =⟨.tup [.agg (Qay (exX x pc c o A B C m) (exP x pc c o A B m) (exC x pc c o A m)),.agg (exE x o A m)],[],[]⟩):=by
 have eX:exX x pc c o A B C m=x:=QcO;have eP:exP x pc c o A B m=w32 ((pc:Int)+4):=Qdh;have eC:exC x pc c o A m=wrL c m (x.getD A 0):=by unfold exC;rw [zN (by omega),zN (by omega),zP (by omega)]
 have eE:exE x o A m= [.i 0,.i 0,.i 0,.u (0:Nat)]:=Qd1;rw [eX,eP,eC,eE];have rA:=Qav x pc c A hx hA;have rB:=Qav x pc c B hx hB;have rC:=Qav x pc c C hx hC;have qm:IntKind.u32.wrap m=((w32 m:Nat):Int):=Qau m;have q4:IntKind.u32.wrap ((pc:Int)+4)=((w32 ((pc:Int)+4):Nat):Int):=Qau _;have q4m:IntKind.u32.wrap (4*((w32 m:Nat):Int))=((w32 (4*(w32 m:Nat)):Nat):Int):=Qau _;have xA:=Qab hY A;have xB:=Qab hY B;have lm:=QaG m;have gT:=Qar (x) (pc) (c) hx hc;have jJ:=Qal (x) (pc) (c);have qN:=Qah (x) (pc) (c);have qR:=Qai gT;have gpCC:=QaB (x) (pc) (c) hx;have gN:=QrP x pc c m (x.getD A 0) hx hc xA;rw [Qwq] at gN;have qZ:=QaP x pc (wrL c m (x.getD A 0)) (w32 ((pc:Int)+4)) hx;have qM:=Qar (x) (pc) (wrL c m (x.getD A 0)) hx (by rw [Qhd];exact hc);have uY:=Qal (x) (pc) (wrL c m (x.getD A 0));have jP:=Qah (x) (pc) (wrL c m (x.getD A 0));have wQ:=Qai qM;have gpC2:=QaB (x) (pc) (wrL c m (x.getD A 0)) hx;have gC:=Qar (x) (w32 ((pc:Int)+4)) (wrL c m (x.getD A 0)) hx (by rw [Qhd];exact hc);have fZ:=Qal (x) (w32 ((pc:Int)+4)) (wrL c m (x.getD A 0));have gS:=Qah (x) (w32 ((pc:Int)+4)) (wrL c m (x.getD A 0));have fH:=Qai gC;have gpC3:=QaB (x) (w32 ((pc:Int)+4)) (wrL c m (x.getD A 0)) hx;generalize Qay (x) (w32 ((pc:Int)+4)) (wrL c m (x.getD A 0))=C3,Qay (x) (pc) (wrL c m (x.getD A 0))=C2 at *;clear eX eP eC eE;generalize x.getD A 0=vA,x.getD B 0=vB,x.getD C 0=vC,Qay (x) (pc) (c)=CC,w32 (4*((w32 m:Nat):Int))=m4 at *;generalize w32 m=mm,w32 ((pc:Int)+4)=p4 at *;refine fnW Tryz.func99 ?_;(repeat' ((conv=>whnf);first|exact zi2|refine zj0 fun hb=>?_|(with_reducible refine zv q4 ?_)|(apply Sd.mk; . first|exact ⟨gC,gS,rfl,(by show 0+C3.length<=25;omega)⟩|exact ⟨qM,jP,rfl,(by show 0+C2.length<=CC.length;omega)⟩|(show (0:Int)<=A/\(A:Int)<16;omega)|(refine ⟨rfl,rfl,rfl,?_⟩;show 0+16+1<=C2.length;omega))|refine QH6 ?_|refine zq1 ?_|((with_reducible apply Ge.mk (α:=SV)); . first|exact rA|exact gpC2)|(refine zpu gN ?_)|refine zse ?_|refine zbb ?_ ?_))
 all_goals exact zF_
theorem QGr (x:List Nat) (pc:Nat) (c:List Nat) (o:Int) (A B C:Nat) (m:Int) (hx:x.length=16) (hc:c.length=8) (hY:ZL x) (gA:ZL c) (gR:ZU pc) (hA:A<16) (hB:B<16) (hC:C<16) (hm:o=58->0<=m/\m<8) (gB: -32768<=m/\m<=65535) (ho:o=60) :
  FN 99 [.agg (Qay x pc c),.agg (iv o A B C m)] [] (. =⟨.tup [.agg (Qay (exX x pc c o A B C m) (exP x pc c o A B m) (exC x pc c o A m)),.agg (exE x o A m)],[],[]⟩):=by
 have eX:exX x pc c o A B C m=x:=QcO;have eP:exP x pc c o A B m=w32 ((pc:Int)+4):=Qdh;have eC:exC x pc c o A m=c:=Qci;have eE:exE x o A m= [.i 1,.i m,.i (A:Nat),.u (0:Nat)]:=by unfold exE;rw [zP (by omega)]
 exact QDG
theorem QCM (x:List Nat) (pc:Nat) (c:List Nat) (o:Int) (A B C:Nat) (m:Int) (hx:x.length=16) (hc:c.length=8) (hY:ZL x) (gA:ZL c) (gR:ZU pc) (hA:A<16) (hB:B<16) (hC:C<16) (hm:o=58->0<=m/\m<8) (gB: -32768<=m/\m<=65535) (ho:o=61) :
  FN 99 [.agg (Qay x pc c),.agg (iv o A B C m)] [] (. =⟨.tup [.agg (Qay (exX x pc c o A B C m) (exP x pc c o A B m) (exC x pc c o A m)),.agg (exE x o A m)],[],[]⟩):=by
 have eX:exX x pc c o A B C m=x:=QcO;have eP:exP x pc c o A B m=w32 ((pc:Int)+4):=Qdh;have eC:exC x pc c o A m=c:=Qci;have eE:exE x o A m= [.i 2,.i m,.i 0,.u (x.getD A 0:Nat)]:=by unfold exE;rw [zN (by omega),zP (by omega)]
 exact QDG
theorem QCN (x:List Nat) (pc:Nat) (c:List Nat) (o:Int) (A B C:Nat) (m:Int) (hx:x.length=16) (hc:c.length=8) (hY:ZL x) (gA:ZL c) (gR:ZU pc) (hA:A<16) (hB:B<16) (hC:C<16) (hm:o=58->0<=m/\m<8) (gB: -32768<=m/\m<=65535) (ho:o=62) :
  FN 99 [.agg (Qay x pc c),.agg (iv o A B C m)] [] (. =⟨.tup [.agg (Qay (exX x pc c o A B C m) (exP x pc c o A B m) (exC x pc c o A m)),.agg (exE x o A m)],[],[]⟩):=by
 have eX:exX x pc c o A B C m=x:=QcO;have eP:exP x pc c o A B m=w32 ((pc:Int)+4):=Qdh;have eC:exC x pc c o A m=c:=Qci;have eE:exE x o A m= [.i 3,.i 0,.i 0,.u (0:Nat)]:=by unfold exE;rw [zN (by omega),zN (by omega),zP (by omega)]
 exact QDG
theorem QuB (x:List Nat) (pc:Nat) (c:List Nat) (o:Int) (A B C:Nat) (m:Int) (hx:x.length=16) (hc:c.length=8) (hY:ZL x) (gA:ZL c) (gR:ZU pc) (hA:A<16) (hB:B<16) (hC:C<16) (hm:o=58->0<=m/\m<8) (gB: -32768<=m/\m<=65535) (ho:o=63) :
  FN 99 [.agg (Qay x pc c),.agg (iv o A B C m)] [] (. =⟨.tup [.agg (Qay (exX x pc c o A B C m) (exP x pc c o A B m) (exC x pc c o A m)),.agg (exE x o A m)],[],[]⟩):=by
 have eX:exX x pc c o A B C m=x:=QcO;have eP:exP x pc c o A B m=w32 ((pc:Int)+4):=Qdh;have eC:exC x pc c o A m=c:=Qci;have eE:exE x o A m= [.i 5,.i 0,.i 0,.u (0:Nat)]:=QEf;exact QDG
theorem QyX (x:List Nat) (pc:Nat) (c:List Nat) (o:Int) (A B C:Nat) (m:Int) (hx:x.length=16) (hc:c.length=8) (hY:ZL x) (gA:ZL c) (gR:ZU pc) (hA:A<16) (hB:B<16) (hC:C<16) (hm:o=58->0<=m/\m<8) (gB: -32768<=m/\m<=65535) (ho:o=64) :
  FN 99 [.agg (Qay x pc c),.agg (iv o A B C m)] [] (. =⟨.tup [.agg (Qay (exX x pc c o A B C m) (exP x pc c o A B m) (exC x pc c o A m)),.agg (exE x o A m)],[],[]⟩):=by
 have eX:exX x pc c o A B C m=x:=QcO;have eP:exP x pc c o A B m=w32 ((pc:Int)+4):=Qdh;have eC:exC x pc c o A m=c:=Qci;have eE:exE x o A m= [.i 4,.i 0,.i 0,.u (0:Nat)]:=QEa;exact QDG
theorem Qus (x:List Nat) (pc:Nat) (c:List Nat) (o:Int) (A B C:Nat) (m:Int) (hx:x.length=16) (hc:c.length=8) (hY:ZL x) (gA:ZL c) (gR:ZU pc) (hA:A<16) (hB:B<16) (hC:C<16) (hm:o=58->0<=m/\m<8) (gB: -32768<=m/\m<=65535) (ho:40<=o/\o<=45\/o=48\/o=49) :
  FN 100 [.agg (Qay x pc c),.agg (iv o A B C m)] [] (. =⟨.a (.agg (Qay (exX x pc c o A B C m) (exP x pc c o A B m) (exC x pc c o A m))),[],[]⟩):=by
 rcases ho with h|h|h
 .cases h3:Qdk o (x.getD A 0) (x.getD B 0) with
  | true=>exact QnN x pc c o A B C m hx hc hY gA gR hA hB hC hm gB ⟨h,h3⟩
  | false=>exact Qlw x pc c o A B C m hx hc hY gA gR hA hB hC hm gB ⟨h,h3⟩
 .exact QCK x pc c o A B C m hx hc hY gA gR hA hB hC hm gB h
 .exact QyM x pc c o A B C m hx hc hY gA gR hA hB hC hm gB h
theorem Qy6 (x:List Nat) (pc:Nat) (c:List Nat) (o:Int) (A B C:Nat) (m:Int) (hx:x.length=16) (hc:c.length=8) (hY:ZL x) (gA:ZL c) (gR:ZU pc) (hA:A<16) (hB:B<16) (hC:C<16) (hm:o=58->0<=m/\m<8) (gB: -32768<=m/\m<=65535) (ho:56<=o/\o<=64) :
  FN 99 [.agg (Qay x pc c),.agg (iv o A B C m)] [] (. =⟨.tup [.agg (Qay (exX x pc c o A B C m) (exP x pc c o A B m) (exC x pc c o A m)),.agg (exE x o A m)],[],[]⟩):=by
 have e:o=56\/o=57\/o=58\/o=59\/o=60\/o=61\/o=62\/o=63\/o=64:=by omega
 rcases e with h|h|h|h|h|h|h|h|h
 .exact QuA x pc c o A B C m hx hc hY gA gR hA hB hC hm gB h
 .exact QyW x pc c o A B C m hx hc hY gA gR hA hB hC hm gB h
 .exact QyU x pc c o A B C m hx hc hY gA gR hA hB hC hm gB h
 .exact QyV x pc c o A B C m hx hc hY gA gR hA hB hC hm gB h
 .exact QGr x pc c o A B C m hx hc hY gA gR hA hB hC hm gB h
 .exact QCM x pc c o A B C m hx hc hY gA gR hA hB hC hm gB h
 .exact QCN x pc c o A B C m hx hc hY gA gR hA hB hC hm gB h
 .exact QuB x pc c o A B C m hx hc hY gA gR hA hB hC hm gB h
 .exact QyX x pc c o A B C m hx hc hY gA gR hA hB hC hm gB h
theorem Qut (x:List Nat) (pc:Nat) (c:List Nat) (xs:List Nat) (n:Nat) (o:Int) (A B C:Nat) (m:Int) (hx:x.length=16) (hc:c.length=8) (gK:ZL c) (gR:ZU pc) (hl:xs.length=n) (hY:ZL xs) (hn:ZU n) (vD:ZL x) (hA:A<16) (hB:B<16) (ho:32<=o/\o<=34) :
  FN 101 [.agg (Qay x pc c),.s (.sl 0 0 n),.agg (iv o A B C m)] [⟨true,1,wsv xs⟩]
   (. =⟨.a (.agg (Qay (ldX x xs n (c.getD 0 0) (c.getD 6 0) (vaO x B m) o A) (trP pc c (rsK xs n (c.getD 0 0) (c.getD 6 0) (vaO x B m) (wd o) 2)) (trC pc c (rsK xs n (c.getD 0 0) (c.getD 6 0) (vaO x B m) (wd o) 2) (vaO x B m)))),[(0,some ⟨true,1,wsv (rsM xs n (c.getD 0 0) (c.getD 6 0) (vaO x B m) (wd o) 2)⟩)],[]⟩):=by
 have gX:vaO x B m<4294967296:=QaG _;have WU:True:=trivial;have hr:=Qg3 x pc c xs n (vaO x B m) (wd o) 2 hx hc gK hl hY hn gX;have rA:=Qav x pc c A hx hA;have rB:=Qav x pc c B hx hB;have xA:=Qab vD A;have qm:IntKind.u32.wrap m=((w32 m:Nat):Int):=Qau m;have q4:IntKind.u32.wrap ((pc:Int)+4)=((w32 ((pc:Int)+4):Nat):Int):=Qau _;have qv:IntKind.u32.wrap (((x.getD B 0:Nat):Int)+((w32 m:Nat):Int))=((vaO x B m:Nat):Int):=Qau _;have gL:=Qaa xs;generalize c.getD 0 0=S,c.getD 6 0=R,vaO x B m=va at *;have gT:=Qar (x) (pc) (c) hx hc;have jJ:=Qal (x) (pc) (c);have qN:=Qah (x) (pc) (c);have qR:=Qai gT;have gpCC:=QaB (x) (pc) (c) hx;have GH:=Qaa (rsM xs n S R va (wd o) 2);unfold ldX trP trC
 by_cases hK:rsK xs n S R va (wd o) 2=0
 .have hok:=QhM hK
  obtain ⟨ha,wI⟩:=QhL hok gX;have gI:(rsM xs n S R va (wd o) 2).length=n:=by rw [Qbl];exact hl
  have gB:=Qc8 xs n S R va (wd o) 2 hY;rw [zP hK,zP hK,zP hK];rw [hK] at hr;generalize rsM xs n S R va (wd o) 2=M,rsA xs n S R va (wd o) 2=AA at *
  obtain ⟨V0,qJ,hV⟩:∃ V0,FN 87 [.s (.sl 0 0 n),.s (.u AA),.s (.i (wd o))] [⟨false,1,wsv M⟩] (. =⟨.tup [.s (.u ((V0:Nat):Int)),.s (.bool true)],[],[]⟩)/\V0<4294967296/\ldV o M AA=(if o=33 then sx8 V0 else V0):=by
   by_cases h32:o=32
   .subst h32
    exact ⟨_,Qfi M n AA hn wI gI ha,Qab gB _,rfl⟩
   .have wN:wd o=1:=zN (by omega)
    rw [wN] at ha |-;refine ⟨_,QnO M n AA hn wI gI gB ha,Nat.lt_trans (QoX _ _) (by decide),?_⟩;unfold ldV;rw [zN h32]
  have GI:=Qy5 V0 hV.1;obtain ⟨V,YH⟩:∃ V,ldV o M AA=V:=⟨_,rfl⟩;rw [YH] at hV |-;have gN:=Qg4 x pc c A V hx hc hA;have qZ:=QaP (QaD x A V) pc c (w32 ((pc:Int)+4)) (by rw [Qaz];exact hx);have qM:=Qar (QaD x A V) (pc) (c) (by rw [Qaz];exact hx) hc;have uY:=Qal (QaD x A V) (pc) (c);have jP:=Qah (QaD x A V) (pc) (c);have wQ:=Qai qM;have gpC2:=QaB (QaD x A V) (pc) (c) (by rw [Qaz];exact hx);have gC:=Qar (QaD x A V) (w32 ((pc:Int)+4)) (c) (by rw [Qaz];exact hx) hc;have fZ:=Qal (QaD x A V) (w32 ((pc:Int)+4)) (c);have gS:=Qah (QaD x A V) (w32 ((pc:Int)+4)) (c);have fH:=Qai gC;have gpC3:=QaB (QaD x A V) (w32 ((pc:Int)+4)) (c) (by rw [Qaz];exact hx);clear YH;generalize wsv M=XM,wsv xs=XX,x.getD A 0=vA,x.getD B 0=vB,w32 m=mm,Qay (QaD x A V) (w32 ((pc:Int)+4)) (c)=C3,Qay (QaD x A V) (pc) (c)=C2,Qay (x) (pc) (c)=CC at *;generalize w32 ((pc:Int)+4)=p4 at *;have e:o=32\/o=33\/o=34:=by omega
  have hV0:=hV.1;rcases e with rfl|rfl|rfl
  all_goals first
   | (
     obtain hq:V=sx8 V0:=hV.2;rw [<- hq] at GI
     clear hq hV)
   | (
     obtain rfl:V=V0:=hV.2
     clear hV)
  all_goals
   refine fnW Tryz.func101 ?_;(repeat' ((conv=>whnf);first|exact zi2|refine zj0 fun hb=>?_|refine QFj ?_|refine QHb ?_|refine QDr ?_|refine zq1 ?_|((with_reducible apply Ge.mk (α:=SV)); . first|exact rB|exact gpC2)|(refine Qhq hr ?_)|(refine QaA qJ ?_)|(refine zpu GI ?_)|(refine zpu gN ?_)|refine zse ?_|refine zbb ?_ ?_))
   all_goals exact QfR
 .have fW:=Qc5 x pc c (rsK xs n S R va (wd o) 2) va hx hc gK
  rw [Qbn] at fW;rw [zN hK,zN hK,zN hK];have gC:=Qar (x) (c.getD 1 0) (trL pc c (rsK xs n S R va (wd o) 2) va) hx rfl;have fZ:=Qal (x) (c.getD 1 0) (trL pc c (rsK xs n S R va (wd o) 2) va);have gS:=Qah (x) (c.getD 1 0) (trL pc c (rsK xs n S R va (wd o) 2) va);have fH:=Qai gC;have gpC3:=QaB (x) (c.getD 1 0) (trL pc c (rsK xs n S R va (wd o) 2) va) hx;generalize wsv (rsM xs n S R va (wd o) 2)=XM,rsA xs n S R va (wd o) 2=AA,wsv xs=XX,x.getD A 0=vA,x.getD B 0=vB,w32 m=mm,Qay (x) (c.getD 1 0) (trL pc c (rsK xs n S R va (wd o) 2) va)=C3,Qay (x) (pc) (c)=CC at *;generalize rsK xs n S R va (wd o) 2=K at *;have e:o=32\/o=33\/o=34:=by omega
  rcases e with rfl|rfl|rfl
  all_goals
   refine fnW Tryz.func101 ?_;exact QEk
theorem QrI (x:List Nat) (pc:Nat) (c:List Nat) (xs:List Nat) (n:Nat) (o:Int) (A B C:Nat) (m:Int) (hx:x.length=16) (hc:c.length=8) (gK:ZL c) (gR:ZU pc) (hl:xs.length=n) (hY:ZL xs) (hn:ZU n) (vD:ZL x) (hA:A<16) (hB:B<16) (ho:35<=o/\o<=36) :
  FN 101 [.agg (Qay x pc c),.s (.sl 0 0 n),.agg (iv o A B C m)] [⟨true,1,wsv xs⟩]
   (. =⟨.a (.agg (Qay x (trP pc c (rsK xs n (c.getD 0 0) (c.getD 6 0) (vaO x B m) (wd o) 3)) (trC pc c (rsK xs n (c.getD 0 0) (c.getD 6 0) (vaO x B m) (wd o) 3) (vaO x B m)))),[(0,some ⟨true,1,wsv (stX xs n (c.getD 0 0) (c.getD 6 0) (vaO x B m) (x.getD A 0) o)⟩)],[]⟩):=by
 have gX:vaO x B m<4294967296:=QaG _;have WU:True:=trivial;have hr:=Qg3 x pc c xs n (vaO x B m) (wd o) 3 hx hc gK hl hY hn gX;have rA:=Qav x pc c A hx hA;have rB:=Qav x pc c B hx hB;have xA:=Qab vD A;have qm:IntKind.u32.wrap m=((w32 m:Nat):Int):=Qau m;have q4:IntKind.u32.wrap ((pc:Int)+4)=((w32 ((pc:Int)+4):Nat):Int):=Qau _;have qv:IntKind.u32.wrap (((x.getD B 0:Nat):Int)+((w32 m:Nat):Int))=((vaO x B m:Nat):Int):=Qau _;have gL:=Qaa xs;generalize c.getD 0 0=S,c.getD 6 0=R,vaO x B m=va at *;have gT:=Qar (x) (pc) (c) hx hc;have jJ:=Qal (x) (pc) (c);have qN:=Qah (x) (pc) (c);have qR:=Qai gT;have gpCC:=QaB (x) (pc) (c) hx;have GH:=Qaa (rsM xs n S R va (wd o) 3);unfold stX trP trC
 by_cases hK:rsK xs n S R va (wd o) 3=0
 .have hok:=QhM hK
  obtain ⟨ha,wI⟩:=QhL hok gX;have gI:(rsM xs n S R va (wd o) 3).length=n:=by rw [Qbl];exact hl
  have gB:=Qc8 xs n S R va (wd o) 3 hY;rw [zP hK,zP hK,zP hK];rw [hK] at hr;generalize rsM xs n S R va (wd o) 3=M,rsA xs n S R va (wd o) 3=AA at *
  have qJ:FN 173 [.s (.sl 0 0 n),.s (.u AA),.s (.i (wd o)),.s (.u (x.getD A 0:Nat))] [⟨true,1,wsv M⟩] (. =⟨.tup [],[(0,some ⟨true,1,wsv (stM o M AA (x.getD A 0))⟩)],[]⟩):=by
   by_cases vG:o=35
   .subst vG
    exact Qui M n AA (x.getD A 0) wI gI ha
   .have wN:wd o=1:=zN (by omega)
    rw [wN] at ha |-;unfold stM;rw [zN vG];exact Quh M n AA (x.getD A 0) wI gI ha
  have hss:=Qaa (stM o M AA (x.getD A 0));have qZ:=QaP x pc c (w32 ((pc:Int)+4)) hx;have gC:=Qar (x) (w32 ((pc:Int)+4)) (c) hx hc;have fZ:=Qal (x) (w32 ((pc:Int)+4)) (c);have gS:=Qah (x) (w32 ((pc:Int)+4)) (c);have fH:=Qai gC;have gpC3:=QaB (x) (w32 ((pc:Int)+4)) (c) hx;generalize wsv (stM o M AA (x.getD A 0))=XS,wsv M=XM,wsv xs=XX at *;generalize x.getD A 0=vA,x.getD B 0=vB,w32 m=mm,Qay (x) (w32 ((pc:Int)+4)) (c)=C3,Qay (x) (pc) (c)=CC at *;generalize w32 ((pc:Int)+4)=p4 at *;have e:o=35\/o=36:=by omega
  rcases e with rfl|rfl
  all_goals
   refine fnW Tryz.func101 ?_;(repeat' ((conv=>whnf);first|exact zi2|refine zj0 fun hb=>?_|refine QFj ?_|refine zq9 ?_|refine QFc ?_|refine zq1 ?_|refine QFi ?_|(refine Qhq hr ?_)|(refine Qhq qJ ?_)|refine zse ?_|refine zbb ?_ ?_))
   all_goals exact QfR
 .have fW:=Qc5 x pc c (rsK xs n S R va (wd o) 3) va hx hc gK
  rw [Qbn] at fW;rw [zN hK,zN hK,zN hK];have gC:=Qar (x) (c.getD 1 0) (trL pc c (rsK xs n S R va (wd o) 3) va) hx rfl;have fZ:=Qal (x) (c.getD 1 0) (trL pc c (rsK xs n S R va (wd o) 3) va);have gS:=Qah (x) (c.getD 1 0) (trL pc c (rsK xs n S R va (wd o) 3) va);have fH:=Qai gC;have gpC3:=QaB (x) (c.getD 1 0) (trL pc c (rsK xs n S R va (wd o) 3) va) hx;generalize wsv (rsM xs n S R va (wd o) 3)=XM,rsA xs n S R va (wd o) 3=AA,wsv xs=XX,x.getD A 0=vA,x.getD B 0=vB,w32 m=mm,Qay (x) (c.getD 1 0) (trL pc c (rsK xs n S R va (wd o) 3) va)=C3,Qay (x) (pc) (c)=CC at *;generalize rsK xs n S R va (wd o) 3=K at *;have e:o=35\/o=36:=by omega
  rcases e with rfl|rfl
  all_goals
   refine fnW Tryz.func101 ?_;exact QEk
def sst (xs:List Nat) (n j:Nat):St :=
 ⟨[(0,.a (.s (.sl 0 0 n))),(1,.a (.s (.sl 1 0 n))),(5,.a (.s (.i j)))],[(0,some ⟨false,1,wsv xs⟩),(1,some ⟨false,1,wsv xs⟩)],[0]⟩
theorem Qzd (xs:List Nat) (n:Nat) (hl:xs.length=n) (hn:ZU n):FN 27 [.s (.sl 0 0 n),.s (.sl 1 0 n)] [⟨false,1,wsv xs⟩,⟨false,1,wsv xs⟩] (. =⟨.a (.s (.bool true)),[],[]⟩):=by
 refine fnW Tryz.func27 ?_;(conv=>whnf);(repeat' ((first|exact zi1|refine zj0 fun hb=>?_|refine zs0 ?_|refine zbb ?_ ?_)<;>conv=>whnf))
 .refine Lp.inv (fun m σ=>∃ j:Nat,m+j=n/\σ=sst xs n j) ?_ ?_
  .refine ⟨n,sst xs n 0,?_,0,by omega,rfl⟩
   (exact zwL [(0,some 0),(1,some 1)])
  .rintro m σ ⟨j,hm,rfl⟩
   unfold sst
   have g:(j:Int)<n->(wsv xs)[0+(j:Int).toNat * 1]?=some (.u (xs.getD j 0:Nat)):=fun h=>by
    rw [Nat.zero_add,Nat.mul_one,Int.toNat_natCast];exact QaZ xs j (by omega)
   (conv=>whnf);(repeat' ((first|exact zi1|refine zj0 fun hb=>?_|((with_reducible apply Ge.mk (α:=SV)); . exact g (by omega))|refine zs0 ?_|refine zbb ?_ ?_)<;>conv=>whnf))
   .refine ⟨m-1,sst xs n (j+1),by omega,?_,j+1,by omega,rfl⟩
    (exact zwL [(0,some 0),(1,some 1)])
   ·(exact Qdg)
theorem Quy (o:Int):FN 98 [.s (.i o)] [] (. =⟨.a (.s (.bool (QgV o))),[],[]⟩):=by
 refine fnW Tryz.func98 ?_;(conv=>whnf);(repeat' ((first|exact zi0|refine zj0 fun hb=>?_|refine zs0 ?_|refine zbb ?_ ?_)<;>conv=>whnf))
 all_goals
  apply Qam
  (focus rfl)
  simp only [Qbc];congr 3;simp only [QgV]
  first
   | (refine (zdf ?_).symm;omega)
   | (refine (zdt ?_).symm;omega)
   | (rw [zbi];simp only [zde];omega)
theorem Qls (w:Nat) (hw:ZU w) (h:dOk w=true):FN 88 [.s (.u w)] [] (. =⟨.tup [.agg (iv (dOp w) (dA w) (dB w) (dC w) (dM w)),.s (.bool true)],[],[]⟩):=by
 have:=Qru w hw;rw [h] at this;exact this
theorem Qlr (w:Nat) (hw:ZU w) (h:dOk w=false):FN 88 [.s (.u w)] [] (. =⟨.tup [.agg (iv 0 0 0 0 0),.s (.bool false)],[],[]⟩):=by
 have:=Qru w hw;rw [h] at this;exact this
theorem QCD (x:List Nat) (pc:Nat) (c:List Nat) (xs:List Nat) (n:Nat) (hx:x.length=16) (hc:c.length=8) (gK:ZL c) (gR:ZU pc) (hl:xs.length=n) (hY:ZL xs) (hn:ZU n) (vD:ZL x) (Q:Ex) (hQ:exS x pc c xs n=Q) :
  FN 54 [.agg (Qay x pc c),.s (.sl 0 0 n)] [⟨true,1,wsv xs⟩]
   (. =⟨.tup [.agg (Qay Q.x Q.pc Q.c),.agg Q.e],[(0,some ⟨true,1,wsv Q.m⟩)],[]⟩):=by
 have hr:=Qg3 x pc c xs n pc 4 1 hx hc gK hl hY hn gR;have b1:=Ql2 (c.getD 0 0) (Qab gK 0);have g0:=Qdu x pc c 0 hx hc (by decide);have zS:=Qqt xs n (c.getD 0 0) (c.getD 6 0) pc hY;have hM:=Qc8 xs n (c.getD 0 0) (c.getD 6 0) pc 4 1 hY;have FE:(rsM xs n (c.getD 0 0) (c.getD 6 0) pc 4 1).length=n:=by rw [Qbl];exact hl
 have gL:=Qaa xs;have GH:=Qaa (rsM xs n (c.getD 0 0) (c.getD 6 0) pc 4 1);have gT:=Qar (x) (pc) (c) hx hc;have jJ:=Qal (x) (pc) (c);have qN:=Qah (x) (pc) (c);have qR:=Qai gT;have gpCC:=QaB (x) (pc) (c) hx;unfold exS at hQ
 by_cases hK:rsK xs n (c.getD 0 0) (c.getD 6 0) pc 4 1=0
 case neg =>
  rw [zP hK] at hQ;subst hQ;have fW:=Qc5 x pc c (rsK xs n (c.getD 0 0) (c.getD 6 0) pc 4 1) pc hx hc gK;rw [Qbn] at fW;dsimp only [E0];have gC:=Qar (x) (c.getD 1 0) (trL pc c (rsK xs n (c.getD 0 0) (c.getD 6 0) pc 4 1) (pc)) hx rfl;have fZ:=Qal (x) (c.getD 1 0) (trL pc c (rsK xs n (c.getD 0 0) (c.getD 6 0) pc 4 1) (pc));have gS:=Qah (x) (c.getD 1 0) (trL pc c (rsK xs n (c.getD 0 0) (c.getD 6 0) pc 4 1) (pc));have fH:=Qai gC;have gpC3:=QaB (x) (c.getD 1 0) (trL pc c (rsK xs n (c.getD 0 0) (c.getD 6 0) pc 4 1) (pc)) hx;generalize Qay (x) (c.getD 1 0) (trL pc c (rsK xs n (c.getD 0 0) (c.getD 6 0) pc 4 1) (pc))=C3 at *;generalize rsK xs n (c.getD 0 0) (c.getD 6 0) pc 4 1=K,rsA xs n (c.getD 0 0) (c.getD 6 0) pc 4 1=AA,wsv (rsM xs n (c.getD 0 0) (c.getD 6 0) pc 4 1)=XM,wsv xs=XX,Qay (x) (pc) (c)=CC at *;refine fnW Tryz.func54 ?_;(repeat' ((conv=>whnf);first|exact zi2|refine zj0 fun hb=>?_|refine Qwu ?_|refine zq4 ?_|refine zq1 ?_|refine QAO ?_|(refine Qhq hr ?_)|(refine zpu fW ?_)|refine zse ?_|refine zbb ?_ ?_))
  all_goals exact QfR
 rw [zN (fun h=>h hK)] at hQ;obtain ⟨ha,wI⟩:=QhL (QhM hK) gR;have qJ:=Qfi (rsM xs n (c.getD 0 0) (c.getD 6 0) pc 4 1) n (rsA xs n (c.getD 0 0) (c.getD 6 0) pc 4 1) hn wI FE ha;have hWe:(rsM xs n (c.getD 0 0) (c.getD 6 0) pc 4 1).getD (rsA xs n (c.getD 0 0) (c.getD 6 0) pc 4 1 / 4) 0=ftW xs n (c.getD 0 0) (c.getD 6 0) pc:=by unfold ftW;rw [zP hK]
 rw [hWe] at qJ;rw [hK] at hr;generalize hS:c.getD 0 0=S,hR:c.getD 6 0=R at *;generalize hW:ftW xs n S R pc=W,hXM:rsM xs n S R pc 4 1=M,rsA xs n S R pc 4 1=AA at *;clear hK hW hXM hWe ha
 cases hd:dOk W with
 | false =>
  rw [zP hd] at hQ;subst hQ;have jO:=Qlr W zS hd;unfold iv at jO;have fW:=Qc5 x pc c 1 W hx hc gK;rw [Qbn] at fW;dsimp only [E0];have gC:=Qar (x) (c.getD 1 0) (trL pc c (1) (W)) hx rfl;have fZ:=Qal (x) (c.getD 1 0) (trL pc c (1) (W));have gS:=Qah (x) (c.getD 1 0) (trL pc c (1) (W));have fH:=Qai gC;have gpC3:=QaB (x) (c.getD 1 0) (trL pc c (1) (W)) hx;generalize Qay (x) (c.getD 1 0) (trL pc c (1) (W))=C3,wsv M=XM,wsv xs=XX,Qay (x) (pc) (c)=CC at *;refine fnW Tryz.func54 ?_;(conv=>whnf);(repeat' ((first|exact zi2|refine zj0 fun hb=>?_|refine Qwu ?_|refine zq4 ?_|refine zq1 ?_|refine QAO ?_|(refine Qhq hr ?_)|(refine QaA qJ ?_)|(refine zpu jO ?_)|(refine zpu fW ?_)|refine zse ?_|refine zbb ?_ ?_)<;>conv=>whnf))
  all_goals exact QfR
 | true =>
 rw [zN (by rw [hd];decide)] at hQ;have jO:=Qls W zS hd;obtain ⟨a1,a2,b1',b2,c1,c2,m1,m2,_⟩:=Qic W hd;rw [a1,b1',c1] at jO;have gH:=Quy (dOp W);generalize nA W=A,nB W=B,nC W=C,dM W=m,dOp W=o at *;clear hd a1 b1' c1
 by_cases hpv:57<=o/\S%2=0
 .rw [zP hpv] at hQ
  subst hQ;rw [show QgV o=true from zdt (by omega)] at gH;replace b1:bits .and .u32 (S:Int) 1=0:=b1.trans (by rw [hpv.2];rfl);have fW:=Qc5 x pc c 2 W hx hc gK;rw [Qbn] at fW;dsimp only [E0];unfold iv at jO;have gC:=Qar (x) (c.getD 1 0) (trL pc c (2) (W)) hx rfl;have fZ:=Qal (x) (c.getD 1 0) (trL pc c (2) (W));have gS:=Qah (x) (c.getD 1 0) (trL pc c (2) (W));have fH:=Qai gC;have gpC3:=QaB (x) (c.getD 1 0) (trL pc c (2) (W)) hx;generalize Qay (x) (c.getD 1 0) (trL pc c (2) (W))=C3,wsv M=XM,wsv xs=XX,Qay (x) (pc) (c)=CC at *;refine fnW Tryz.func54 ?_;(repeat' ((conv=>whnf);first|exact zi2|refine zj0 fun hb=>?_|refine QAQ ?_|refine Qwu ?_|refine zq4 ?_|refine zq1 ?_|((with_reducible apply Ge.mk (α:=SV)); . first|exact g0|exact gpCC)|(refine Qhq hr ?_)|(refine QaA qJ ?_)|(refine zpu jO ?_)|(refine zpu gH ?_)|(refine zpu fW ?_)|refine zse ?_|refine zbb ?_ ?_))
  all_goals exact QfR
 rw [zN hpv] at hQ;obtain ⟨bp,ZK,jA⟩:∃ bp,QgV o=bp/\(bp=true->S%2=1):=⟨_,rfl,fun h=>by unfold QgV at h;simp only [zde] at h;omega⟩;rw [ZK] at gH
 by_cases h32:32<=o/\o<=34
 .rw [zP h32] at hQ
  subst hQ;have jU:=Qut x pc c M n o A B C m hx hc gK gR FE hM hn vD a2 b2 h32;rw [hS,hR] at jU;dsimp only [E0];have hsl:=Qaa (rsM M n S R (vaO x B m) (wd o) 2);obtain rfl:bp=false:=QsN;clear jA hpv;have gC:=Qar (ldX x M n S R (vaO x B m) o A) (trP pc c (rsK M n S R (vaO x B m) (wd o) 2)) (trC pc c (rsK M n S R (vaO x B m) (wd o) 2) (vaO x B m)) (by rw [QgL];exact hx) (Qfp _ _ _ _ hc);have fZ:=Qal (ldX x M n S R (vaO x B m) o A) (trP pc c (rsK M n S R (vaO x B m) (wd o) 2)) (trC pc c (rsK M n S R (vaO x B m) (wd o) 2) (vaO x B m));have gS:=Qah (ldX x M n S R (vaO x B m) o A) (trP pc c (rsK M n S R (vaO x B m) (wd o) 2)) (trC pc c (rsK M n S R (vaO x B m) (wd o) 2) (vaO x B m));have fH:=Qai gC;have gpC3:=QaB (ldX x M n S R (vaO x B m) o A) (trP pc c (rsK M n S R (vaO x B m) (wd o) 2)) (trC pc c (rsK M n S R (vaO x B m) (wd o) 2) (vaO x B m)) (by rw [QgL];exact hx);generalize Qay (ldX x M n S R (vaO x B m) o A) (trP pc c (rsK M n S R (vaO x B m) (wd o) 2)) (trC pc c (rsK M n S R (vaO x B m) (wd o) 2) (vaO x B m))=C3,wsv (rsM M n S R (vaO x B m) (wd o) 2)=XL,wsv M=XM,wsv xs=XX,Qay (x) (pc) (c)=CC at *;unfold iv at jO jU;refine fnW Tryz.func54 ?_;exact QEh
 rw [zN h32] at hQ
 by_cases vG:35<=o/\o<=36
 .rw [zP vG] at hQ
  subst hQ;have jU:=QrI x pc c M n o A B C m hx hc gK gR FE hM hn vD a2 b2 vG;rw [hS,hR] at jU;dsimp only [E0];have hsl:=Qaa (stX M n S R (vaO x B m) (x.getD A 0) o);obtain rfl:bp=false:=QsN;clear jA hpv;have gC:=Qar (x) (trP pc c (rsK M n S R (vaO x B m) (wd o) 3)) (trC pc c (rsK M n S R (vaO x B m) (wd o) 3) (vaO x B m)) hx (Qfp _ _ _ _ hc);have fZ:=Qal (x) (trP pc c (rsK M n S R (vaO x B m) (wd o) 3)) (trC pc c (rsK M n S R (vaO x B m) (wd o) 3) (vaO x B m));have gS:=Qah (x) (trP pc c (rsK M n S R (vaO x B m) (wd o) 3)) (trC pc c (rsK M n S R (vaO x B m) (wd o) 3) (vaO x B m));have fH:=Qai gC;have gpC3:=QaB (x) (trP pc c (rsK M n S R (vaO x B m) (wd o) 3)) (trC pc c (rsK M n S R (vaO x B m) (wd o) 3) (vaO x B m)) hx;generalize Qay (x) (trP pc c (rsK M n S R (vaO x B m) (wd o) 3)) (trC pc c (rsK M n S R (vaO x B m) (wd o) 3) (vaO x B m))=C3,wsv (stX M n S R (vaO x B m) (x.getD A 0) o)=XL,wsv M=XM,wsv xs=XX,Qay (x) (pc) (c)=CC at *;unfold iv at jO jU;refine fnW Tryz.func54 ?_;exact QEh
 rw [zN vG] at hQ;subst hQ;obtain ⟨es,ek,el⟩:=Qie x o A m
 by_cases h56:56<=o
 .have jU:=Qy6 x pc c o A B C m hx hc vD gK gR a2 b2 c2 m2 m1 (by omega)
  have gC:=Qar (exX x pc c o A B C m) (exP x pc c o A B m) (exC x pc c o A m) (by rw [Qeg];exact hx) (Qid x pc c o A m hc);have fZ:=Qal (exX x pc c o A B C m) (exP x pc c o A B m) (exC x pc c o A m);have gS:=Qah (exX x pc c o A B C m) (exP x pc c o A B m) (exC x pc c o A m);have fH:=Qai gC;have gpC3:=QaB (exX x pc c o A B C m) (exP x pc c o A B m) (exC x pc c o A m) (by rw [Qeg];exact hx);dsimp only;generalize Qay (exX x pc c o A B C m) (exP x pc c o A B m) (exC x pc c o A m)=C3,wsv M=XM,wsv xs=XX,exE x o A m=EE at *;have WX:∀ c:List SV,c.length=4->QaC c 0 EE=EE:=fun c hc=>Qce (hc.trans el.symm)
  generalize Qay (x) (pc) (c)=CC at *;unfold iv at jO jU
  cases bp with
  | false =>
   refine fnW Tryz.func54 ?_;(conv=>whnf);(repeat' ((first|exact zi2|refine zj0 fun hb=>?_|refine QH7 ?_|refine QFb ?_|refine QFh ?_|refine QAO ?_|(refine Qhq hr ?_)|(refine QaA qJ ?_)|(refine zpu jO ?_)|(refine zpu gH ?_)|(refine zpu jU ?_)|refine zse ?_|refine zbb ?_ ?_)<;>conv=>whnf))
   all_goals exact QfR
  | true =>
   replace b1:bits .and .u32 (S:Int) 1=1:=b1.trans (by rw [jA rfl];rfl);refine fnW Tryz.func54 ?_;(repeat' ((conv=>whnf);first|exact zi2|refine zj0 fun hb=>?_|refine QAQ ?_|refine QH7 ?_|refine QFb ?_|refine QFh ?_|((with_reducible apply Ge.mk (α:=SV)); . first|exact g0|exact gpCC)|(refine Qhq hr ?_)|(refine QaA qJ ?_)|(refine zpu jO ?_)|(refine zpu gH ?_)|(refine zpu jU ?_)|refine zse ?_|refine zbb ?_ ?_))
   all_goals exact QfR
 obtain rfl:bp=false:=QsN;have eE:exE x o A m= [.i 0,.i 0,.i 0,.u (0:Nat)]:=Qd1;dsimp only;rw [eE];clear es ek el eE jA
 by_cases h40:40<=o
 .have jU:=Qus x pc c o A B C m hx hc vD gK gR a2 b2 c2 m2 m1 (by omega)
  have gC:=Qar (exX x pc c o A B C m) (exP x pc c o A B m) (exC x pc c o A m) (by rw [Qeg];exact hx) (Qid x pc c o A m hc);have fZ:=Qal (exX x pc c o A B C m) (exP x pc c o A B m) (exC x pc c o A m);have gS:=Qah (exX x pc c o A B C m) (exP x pc c o A B m) (exC x pc c o A m);have fH:=Qai gC;have gpC3:=QaB (exX x pc c o A B C m) (exP x pc c o A B m) (exC x pc c o A m) (by rw [Qeg];exact hx);generalize Qay (exX x pc c o A B C m) (exP x pc c o A B m) (exC x pc c o A m)=C3,wsv M=XM,wsv xs=XX,Qay (x) (pc) (c)=CC at *;unfold iv at jO jU;refine fnW Tryz.func54 ?_;(repeat' ((conv=>whnf);first|exact zi2|refine zj0 fun hb=>?_|refine Qwu ?_|refine zq4 ?_|refine zq1 ?_|refine QAO ?_|(refine Qhq hr ?_)|(refine QaA qJ ?_)|(refine zpu jO ?_)|(refine zpu gH ?_)|(refine zpu jU ?_)|refine zse ?_|refine zbb ?_ ?_))
  all_goals exact QfR
 have eC:exC x pc c o A m=c:=Qci;have eP:exP x pc c o A B m=w32 ((pc:Int)+4):=Qdh
 obtain ⟨V,hV,hV3,hVi,hVl⟩:∃ V,exX x pc c o A B C m=QaD x A V/\(o<=13->V=Qbu o (x.getD B 0) (x.getD C 0))/\(16<=o/\o<=23->V=Qbu o (x.getD B 0) (w32 m))/\(o=24->V=w32 ((w32 m:Nat)*65536)):=by
  unfold exX
  by_cases h1:1<=o/\o<=13
  .rw [zP h1]
   exact ⟨_,rfl,fun _=>rfl,fun h=>by omega,fun h=>by omega⟩
  .rw [zN h1]
   by_cases h2:16<=o/\o<=23
   .rw [zP h2]
    exact ⟨_,rfl,fun h=>by omega,fun _=>rfl,fun h=>by omega⟩
   .rw [zN h2,zP (by omega)]
    exact ⟨_,rfl,fun h=>by omega,fun h=>by omega,fun _=>rfl⟩
 rw [hV,eC,eP];have gN:=Qg4 x pc c A V hx hc a2;have rB:=Qav x pc c B hx b2;have rC:=Qav x pc c C hx c2;have xB:=Qab vD B;have xC:=Qab vD C;have lm:=QaG m;have qm:IntKind.u32.wrap m=((w32 m:Nat):Int):=Qau m;have q4:IntKind.u32.wrap ((pc:Int)+4)=((w32 ((pc:Int)+4):Nat):Int):=Qau _;have hal3:=Qrr o (x.getD B 0) (x.getD C 0) xB xC;have hali:=Qrr o (x.getD B 0) (w32 m) xB lm;rw [<- Qbi o (x.getD B 0) (x.getD C 0) xB xC] at hal3;rw [<- Qbi o (x.getD B 0) (w32 m) xB lm] at hali;have q16:IntKind.u32.wrap (((w32 m:Nat):Int)*2^min (Int.toNat 16) IntKind.u32.bits)=((w32 ((w32 m:Nat)*65536):Nat):Int):=by rw [show (2:Int)^min (Int.toNat 16) IntKind.u32.bits=65536 from rfl,Qau]
 have qZ:=QaP (QaD x A V) pc c (w32 ((pc:Int)+4)) (by rw [Qaz];exact hx);have qM:=Qar (QaD x A V) (pc) (c) (by rw [Qaz];exact hx) hc;have uY:=Qal (QaD x A V) (pc) (c);have jP:=Qah (QaD x A V) (pc) (c);have wQ:=Qai qM;have gpC2:=QaB (QaD x A V) (pc) (c) (by rw [Qaz];exact hx);have gC:=Qar (QaD x A V) (w32 ((pc:Int)+4)) (c) (by rw [Qaz];exact hx) hc;have fZ:=Qal (QaD x A V) (w32 ((pc:Int)+4)) (c);have gS:=Qah (QaD x A V) (w32 ((pc:Int)+4)) (c);have fH:=Qai gC;have gpC3:=QaB (QaD x A V) (w32 ((pc:Int)+4)) (c) (by rw [Qaz];exact hx);generalize Qay (QaD x A V) (w32 ((pc:Int)+4)) (c)=C3,Qay (QaD x A V) (pc) (c)=C2 at *;clear hV eC eP hpv;generalize w32 ((pc:Int)+4)=p4,QbV o=bb,Qbu o (x.getD B 0) (x.getD C 0)=V3,Qbu o (x.getD B 0) (w32 m)=Vi,w32 ((w32 m:Nat)*65536)=Vl_ at *;generalize w32 m=mm,x.getD B 0=vB,x.getD C 0=vC,wsv M=XM,wsv xs=XX,Qay (x) (pc) (c)=CC at *;unfold iv at jO
 by_cases WY:o<=13
 .obtain rfl:=hV3 WY
  refine fnW Tryz.func54 ?_;(repeat' ((conv=>whnf);first|exact zi2|refine zj0 fun hb=>?_|refine QzV ?_|(apply Sd.mk; . first|exact ⟨gC,gS,rfl,(by show 0+C3.length<=25;omega)⟩|exact ⟨qM,jP,rfl,(by show 0+C2.length<=CC.length;omega)⟩|(show (0:Int)<=B/\(B:Int)<16;omega)|(show (0:Int)<=C/\(C:Int)<16;omega)|(refine ⟨rfl,rfl,rfl,?_⟩;show 0+16+1<=C2.length;omega))|refine QDr ?_|refine zq1 ?_|((with_reducible apply Ge.mk (α:=SV)); . first|exact rB|exact rC|exact gpCC|exact gpC2)|(refine Qhq hr ?_)|(refine QaA qJ ?_)|(refine zpu jO ?_)|(refine zpu gH ?_)|(refine zpu hal3 ?_)|(refine zpu gN ?_)|refine zse ?_|refine zbb ?_ ?_))
  all_goals exact QfR
 by_cases vF:o=24
 .obtain rfl:=hVl vF
  refine fnW Tryz.func54 ?_;(repeat' ((conv=>whnf);first|exact zi2|refine zj0 fun hb=>?_|(with_reducible first|refine zv qm ?_|refine zv q4 ?_|refine zv q16 ?_)|(apply Sd.mk; . first|exact ⟨gC,gS,rfl,(by show 0+C3.length<=25;omega)⟩|exact ⟨qM,jP,rfl,(by show 0+C2.length<=CC.length;omega)⟩|(refine ⟨rfl,rfl,rfl,?_⟩;show 0+16+1<=C2.length;omega))|refine QDr ?_|refine zq1 ?_|((with_reducible apply Ge.mk (α:=SV)); . first|exact gpCC|exact gpC2)|(refine Qhq hr ?_)|(refine QaA qJ ?_)|(refine zpu jO ?_)|(refine zpu gH ?_)|(refine zpu gN ?_)|refine zse ?_|refine zbb ?_ ?_))
  all_goals exact QfR
 .obtain rfl:=hVi (by omega)
  refine fnW Tryz.func54 ?_;(repeat' ((conv=>whnf);first|exact zi2|refine zj0 fun hb=>?_|refine QzV ?_|refine QHb ?_|refine QDr ?_|refine zq1 ?_|((with_reducible apply Ge.mk (α:=SV)); . first|exact rB|exact gpCC|exact gpC2)|(refine Qhq hr ?_)|(refine QaA qJ ?_)|(refine zpu jO ?_)|(refine zpu gH ?_)|(refine zpu hali ?_)|(refine zpu gN ?_)|refine zse ?_|refine zbb ?_ ?_))
  all_goals exact QfR
theorem Qxu (x:List Nat) (pc:Nat) (c:List Nat) (xs:List Nat) (n:Nat) (hx:x.length=16) (hc:c.length=8):(exS x pc c xs n).x.length=16/\(exS x pc c xs n).c.length=8/\(exS x pc c xs n).m.length=xs.length/\Qao (exS x pc c xs n).e=true/\Qat (exS x pc c xs n).e=true/\(exS x pc c xs n).e.length=4:=by
 unfold exS;split
 .exact ⟨hx,rfl,Qbl _ _ _ _ _ _ _,rfl,rfl,rfl⟩
 .split
  .exact ⟨hx,rfl,Qbl _ _ _ _ _ _ _,rfl,rfl,rfl⟩
  .split
   .exact ⟨hx,rfl,Qbl _ _ _ _ _ _ _,rfl,rfl,rfl⟩
   .split
    .refine ⟨by dsimp only;rw [QgL];exact hx,Qfp _ _ _ _ hc,by dsimp only;rw [Qbl,Qbl],rfl,rfl,rfl⟩
    .split
     .refine ⟨hx,Qfp _ _ _ _ hc,?_,rfl,rfl,rfl⟩
      dsimp only;unfold stX;split
      .rw [Qcs,Qbl,Qbl]
      .rw [Qbl,Qbl]
     .exact ⟨by dsimp only;rw [Qeg];exact hx,Qid _ _ _ _ _ _ hc,Qbl _ _ _ _ _ _ _,Qie _ _ _ _⟩
end Go.Proofs.YtpgkkfajljekpabGreat
