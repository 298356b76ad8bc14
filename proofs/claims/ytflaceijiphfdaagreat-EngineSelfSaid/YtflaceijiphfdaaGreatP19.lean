import Derived.Test.YtflaceijiphfdaaGreatP10
import Derived.Test.YtflaceijiphfdaaGreatP13
import Derived.Test.YtflaceijiphfdaaGreatP17
import Derived.Test.YtflaceijiphfdaaGreatP18
set_option linter.unusedSimpArgs false
set_option linter.unusedVariables false
set_option maxHeartbeats 0
set_option maxRecDepth 100000
namespace Go.Proofs.YtflaceijiphfdaaGreat
open Go Go.RowKit
theorem Qfu (xs:List Nat) (n a:Nat) (hn:ZU n) (ha:ZU a):FN 151 [.s (.sl 0 0 n),.s (.u a),.s (.i 1)] [⟨false,1,wsv xs⟩] (. =⟨.a (.s (.bool (ld1 n a))),[],[]⟩):=by
 have hm:=QaT n;have hp:=Qcg xs n hn;have gK:=Qaa xs;unfold ld1;generalize mpg n=P,wsv xs=XX at *;refine fnW Tryz.func151 ?_;(conv=>whnf);(repeat' ((first|exact zi0|refine zj0 fun hb=>?_|(refine QaD hp ?_)|refine zst ?_|refine zbb ?_ ?_)<;>conv=>whnf))
 all_goals
  refine QbP rfl gK rfl ?_;simp only [Qba];congr 3;refine Eq.symm ?_
  first
   | (exact zdf (by omega))
   | (rw [zbi,zde,zde];omega)
theorem Qk7 (xs:List Nat) (n a:Nat) (sz:Int) (fQ:sz=1\/sz=4) (hn:ZU n) (ha:ZU a):FN 151 [.s (.sl 0 0 n),.s (.u a),.s (.i sz)] [⟨false,1,wsv xs⟩] (. =⟨.a (.s (.bool (acB sz n a))),[],[]⟩):=by
 rcases fQ with rfl|rfl
 .exact Qfu xs n a hn ha
 .exact QcY xs n a hn ha
theorem Qe4 (xs:List Nat) (n a:Nat) (hn:ZU n) (ha:ZU a) (hl:xs.length=n) (qU:ld4 n a=true):FN 87 [.s (.sl 0 0 n),.s (.u a),.s (.i 4)] [⟨false,1,wsv xs⟩] (. =⟨.tup [.s (.u (xs.getD (a / 4) 0:Nat)),.s (.bool true)],[],[]⟩):=by
 have hw:=QcY xs n a hn ha;rw [qU] at hw;have yO:=Qeb qU;have hg:=QaX xs (a / 4) (by omega);refine fnW Tryz.func87 ?_;(conv=>whnf);(repeat' ((first|exact zi0|refine zj0 fun hb=>?_|(refine Qae (f:=151) hw [⟨0,0⟩] [(0,⟨false,1,wsv xs⟩)] rfl ⟨rfl,trivial⟩ ⟨rfl,Qar (Qaa _),trivial⟩ ⟨rfl,Qbm⟩ ?_)|refine Qek ?_|refine QvU ?_|refine QAk ?_|refine zs0 ?_|refine zbb ?_ ?_)<;>conv=>whnf))
 all_goals first|exact QbP rfl (Qaa _) rfl rfl
theorem QGX (w a:Nat) (hw:ZU w):bits .and .u32 ((w:Int) / 2^min (((a%4*8:Nat):Int)).toNat IntKind.u32.bits) 255=((byN w a:Nat):Int):=Qex w (a%4*8) 8 hw (by omega) (by omega)
theorem at8 (a:Nat):IntKind.u32.wrap (8*((a%4:Nat):Int))=((a%4*8:Nat):Int):=by rw [QeO (by omega) (by omega)];omega
theorem QId (w:Int) (l:Nat):w / 2^min ((l:Nat):Int).toNat IntKind.u32.bits=w / 2^min ((l:Nat):Int).toNat IntKind.u32.bits:=rfl
theorem Qnn (xs:List Nat) (n a:Nat) (hn:ZU n) (ha:ZU a) (hl:xs.length=n) (hx:ZL xs) (qU:ld1 n a=true):FN 87 [.s (.sl 0 0 n),.s (.u a),.s (.i 1)] [⟨false,1,wsv xs⟩] (. =⟨.tup [.s (.u (byN (xs.getD (a / 4) 0) a:Nat)),.s (.bool true)],[],[]⟩):=by
 have hw:=Qfu xs n a hn ha;rw [qU] at hw;have yO:=Qh4 qU;have hg:=QaX xs (a / 4) (by omega);have wA:=QGX (xs.getD (a / 4) 0) a (QCS hx _);have h8:=at8 a;have FI:=QE2 a;generalize xs.getD (a / 4) 0=W at *;have hsk:=QId (W:Int) (a%4*8);generalize byN W a=B,a%4*8=Q at *;generalize a%4=R4 at *;refine fnW Tryz.func87 ?_;(conv=>whnf);(repeat' ((first|exact zi0|refine zj0 fun hb=>?_|(refine Qae (f:=151) hw [⟨0,0⟩] [(0,⟨false,1,wsv xs⟩)] rfl ⟨rfl,trivial⟩ ⟨rfl,Qar (Qaa _),trivial⟩ ⟨rfl,Qbm⟩ ?_)|refine Qek ?_|refine QvU ?_|refine QAk ?_|(with_reducible first|refine zv FI ?_|refine zv h8 ?_|refine zv hsk ?_|refine zv wA ?_)|refine zs0 ?_|refine zbb ?_ ?_)<;>conv=>whnf))
 all_goals first|exact QbP rfl (Qaa _) rfl rfl
theorem QtM (xs:List Nat) (n a v:Nat) (ha:ZU a) (hl:xs.length=n) (qU:ld4 n a=true):FN 161 [.s (.sl 0 0 n),.s (.u a),.s (.i 4),.s (.u v)] [⟨true,1,wsv xs⟩] (. =⟨.tup [],[(0,some ⟨true,1,wsv (xs.set (a / 4) v)⟩)],[]⟩):=by
 have yO:=Qeb qU;have gY:=Qbv xs (a / 4) v (by omega);have FS:(wsv xs).length=n:=by simp [hl]
 have JD:Qaq (wsv (xs.set (a / 4) v))=true:=Qaa _;generalize wsv (xs.set (a / 4) v)=X2,wsv xs=M at *;refine fnW Tryz.func161 ?_;(repeat' ((conv=>whnf);first|exact zi0|refine zj0 fun hb=>?_|refine Qek ?_|(apply Sd.mk; . refine ⟨rfl,rfl,rfl,?_⟩;show _<=M.length;simp;omega)|refine QvU ?_|refine zq7 ?_|refine zs0 ?_|refine zbb ?_ ?_))
 all_goals exact Qb5
theorem QtL (xs:List Nat) (n a v:Nat) (ha:ZU a) (hl:xs.length=n) (qU:ld1 n a=true):FN 161 [.s (.sl 0 0 n),.s (.u a),.s (.i 1),.s (.u v)] [⟨true,1,wsv xs⟩] (. =⟨.tup [],[(0,some ⟨true,1,wsv (Qnd xs a v)⟩)],[]⟩):=by
 have yO:=Qh4 qU;have hg:=QaX xs (a / 4) (by omega);have gY:=Qbv xs (a / 4) (sfN (xs.getD (a / 4) 0) (a%4*8) v) (by omega);change QaB _ _ _=wsv (Qnd xs a v) at gY;have GI:=(Qf1 (xs.getD (a / 4) 0) (a%4*8) v).symm;unfold sfI at GI;have e1:IntKind.u32.wrap (255*2^min ((a%4*8:Nat):Int).toNat IntKind.u32.bits)=IntKind.u32.wrap (255*2^min ((a%4*8:Nat):Int).toNat IntKind.u32.bits):=rfl;have e2:IntKind.u32.wrap (bits .and .u32 (v:Int) 255*2^min ((a%4*8:Nat):Int).toNat IntKind.u32.bits)=IntKind.u32.wrap (bits .and .u32 (v:Int) 255*2^min ((a%4*8:Nat):Int).toNat IntKind.u32.bits):=rfl;have FS:(wsv xs).length=n:=by simp [hl]
 have JD:Qaq (wsv (Qnd xs a v))=true:=Qaa _;have h8:=at8 a;have FI:=QE2 a;generalize sfN (xs.getD (a / 4) 0) (a%4*8) v=V,wsv (Qnd xs a v)=X2 at *;generalize xs.getD (a / 4) 0=W,wsv xs=M,a%4*8=Q at *;refine fnW Tryz.func161 ?_;(repeat' ((conv=>whnf);first|exact zi0|refine zj0 fun hb=>?_|refine Qek ?_|(apply Sd.mk; . refine ⟨rfl,rfl,rfl,?_⟩;show _<=M.length;simp;omega)|refine QvU ?_|refine QAk ?_|(with_reducible first|refine zv FI ?_|refine zv h8 ?_|refine zv e1 ?_|refine zv e2 ?_|refine zv GI ?_)|refine zq7 ?_|refine zs0 ?_|refine zbb ?_ ?_))
 all_goals exact Qb5
theorem QjE (o:Int) (a b:Nat) (ha:ZU a) (fM:ZU b):FN 160 [.s (.i o),.s (.u a),.s (.u b)] [] (. =⟨.a (.s (.bool (Qc7 o a b))),[],[]⟩):=by
 refine fnW Tryz.func160 ?_;exact Qzu
theorem QH2 (x:Nat) (hx:ZU x):bits .and .u32 (x:Int) (256-1)=((x%256:Nat):Int):=QaS x 8 hx (by omega)
theorem QH3 (x:Nat) (hx:x<256):(x:Int) / 2^min ((8:Int)-1).toNat IntKind.u32.bits=((x / 128:Nat):Int):=by
 rw [show (2:Int)^min ((8:Int)-1).toNat IntKind.u32.bits=128 from rfl];omega
theorem QH4 (x:Nat) (hx:x<256):bits .or .u32 (x:Int) 4294967040=((x+4294967040:Nat):Int):=by
 have:=Qvv x 4294967040 (by omega) (by omega)
 have e:x ||| 4294967040=x+4294967040:=by
  rw [Nat.or_comm,show 4294967040=2^8*16777215 from rfl,<- Nat.two_pow_add_eq_or_of_lt (i:=8) (show x<2^8 by omega)];omega
 rw [e] at this;exact this
theorem Qyx (x:Nat) (hx:ZU x):FN 162 [.s (.u x),.s (.i 8)] [] (. =⟨.a (.s (.u (sx8 x:Nat))),[],[]⟩):=by
 have r1:=QH2 x hx;have r2:=QH3 (x%256) (by omega);have r3:=QH4 (x%256) (by omega);have m1:IntKind.u32.wrap (1*2^min (Int.toNat 8) IntKind.u32.bits)=256:=rfl;have m2:IntKind.u32.wrap (4294967295*2^min (Int.toNat 8) IntKind.u32.bits)=4294967040:=rfl;refine fnW Tryz.func162 ?_;(conv=>whnf);(repeat' ((first|exact zi0|refine zj0 fun hb=>?_|(with_reducible first|refine zv r1 ?_|refine zv r2 ?_|refine zv r3 ?_|refine zv m1 ?_|refine zv m2 ?_)|refine zs0 ?_|refine zbb ?_ ?_)<;>conv=>whnf))
 all_goals
  refine Qam rfl ?_;simp only [Qba,sx8]
  first
   | (rw [zP (by omega)];done)
   | (rw [zN (by omega)];done)
theorem QgM (x:List Nat) (pc:Nat) (c:List Nat) (r v:Nat) (hx:x.length=16) (hc:c.length=8) (hr:r<16):FN 57 [.agg (Qax x pc c),.s (.i r),.s (.u v)] [] (. =⟨.a (.agg (Qax (QaC x r v) pc c)),[],[]⟩):=by
 have hw:=QhT x pc c r v hx hr;have gS:=Qao (x) (pc) (c) hx hc;have jG:=Qal (x) (pc) (c);have qL:=Qag (x) (pc) (c);have qR:=Qah gS;have gpCC:=QaA (x) (pc) (c) hx;have qK:=Qao (x.set r v) (pc) (c) (by simpa using hx) hc;have uJ:=Qal (x.set r v) (pc) (c);have jQ:=Qag (x.set r v) (pc) (c);have wJ:=Qah qK;have gpC2:=QaA (x.set r v) (pc) (c) (by simpa using hx);unfold QaC
 by_cases h:r=0
 .rw [zP h]
  subst h;generalize Qax (x) (pc) (c)=CC at *;refine fnW Tryz.func57 ?_;(repeat' ((conv=>whnf);first|exact zi2|refine zj0 fun hb=>?_|(apply Sd.mk; . exact ⟨gS,qL,rfl,(by show 0+CC.length<=25;omega)⟩)|((with_reducible apply Vl.mk (α:=List SV)); . first|exact qR _ (by first|rfl|assumption))|(apply Sg.mk; . first|exact Qa4 CC gS)|refine zse ?_|refine zbb ?_ ?_))
  all_goals exact zF_
 .rw [zN h]
  generalize Qax (x.set r v) (pc) (c)=C2,Qax (x) (pc) (c)=CC at *;refine fnW Tryz.func57 ?_;(repeat' ((conv=>whnf);first|exact zi2|refine zj0 fun hb=>?_|(apply Sd.mk; . first|exact ⟨qK,jQ,rfl,(by show 0+C2.length<=25;omega)⟩|(show (0:Int)<=r/\(r:Int)<16;omega)|(refine ⟨rfl,rfl,rfl,?_⟩;show r+1<=CC.length;omega))|((with_reducible apply Vl.mk (α:=List SV)); . first|exact hw|exact wJ _ (by first|rfl|assumption))|(apply Sg.mk; . exact Qa4 C2 qK)|refine zse ?_|refine zbb ?_ ?_))
  all_goals exact zF_
theorem QAu (a:Nat) (ha:ZU a):bits .and .u32 (a:Int) 5=((a%2+a / 4%2*4:Nat):Int):=by
 rw [show ((5:Int))=((5:Nat):Int) from rfl,Qcz a 5 ha (by omega)];obtain ⟨h,l,hl,rfl⟩:=Qhz a;rw [Qgu h l 5 hl (by decide)];have e:∀ l:Nat,l<32->l &&& 5=l%2+l / 4%2*4:=by decide
 rw [e l hl];congr 1;omega
theorem Qra (x:List Nat) (pc:Nat) (c:List Nat) (hx:x.length=16) (hc:c.length=8) (hs:c.getD 0 0<4294967296):FN 154 [.agg (Qax x pc c)] [] (. =⟨.a (.s (.bool (Qc5 (c.getD 0 0)))),[],[]⟩):=by
 have g0:=Qdf x pc c 0 hx hc (by decide);have b5:=QAu (c.getD 0 0) hs;have gS:=Qao (x) (pc) (c) hx hc;have jG:=Qal (x) (pc) (c);have qL:=Qag (x) (pc) (c);have qR:=Qah gS;have gpCC:=QaA (x) (pc) (c) hx;generalize c.getD 0 0=S,Qax (x) (pc) (c)=CC at *
 obtain ⟨T,hT,hP⟩:∃ T:Nat,S%2+S / 4%2*4=T/\(((T:Nat):Int)==4)=Qc5 S:=by
  refine ⟨_,rfl,?_⟩;unfold Qc5;rw [zbi,beq_iff_eq,zde];omega
 rw [hT] at b5;rw [<- hP];refine fnW Tryz.func154 ?_;(repeat' ((conv=>whnf);first|exact zi0|refine zj0 fun hb=>?_|(with_reducible refine zv b5 ?_)|refine QmE ?_|refine zst ?_|refine zbb ?_ ?_))
 all_goals exact zf_
theorem QgL (x:List Nat) (pc:Nat) (c:List Nat) (xs:List Nat) (n va:Nat) (sz ac:Int) (hx:x.length=16) (hc:c.length=8) (gM:ZL c) (hl:xs.length=n) (hY:ZL xs) (hn:ZU n) (gV:ZU va) :
  FN 90 [.agg (Qax x pc c),.s (.sl 0 0 n),.s (.u va),.s (.i sz),.s (.i ac)] [⟨true,1,wsv xs⟩]
   (. =⟨.tup [.s (.u (rsA xs n (c.getD 0 0) (c.getD 6 0) va sz ac:Nat)),.s (.i (rsK xs n (c.getD 0 0) (c.getD 6 0) va sz ac))],[(0,some ⟨true,1,wsv (rsM xs n (c.getD 0 0) (c.getD 6 0) va sz ac)⟩)],[]⟩):=by
 have hs:=Qab gM 0;have hr:=Qab gM 6;have hk:=Qra x pc c hx hc hs;have g0:=Qdf x pc c 0 hx hc (by decide);have g6:=Qdf x pc c 6 hx hc (by decide);have YX:=Qao x pc c hx hc;have hCs:=Qal x pc c;have hCk:=Qag x pc c;have yZ:=Qjw ac;have vF:=QjB ac;have hz0:=Qah YX;generalize c.getD 0 0=S,c.getD 6 0=R,Qax x pc c=C at *;have hw:=Qrk xs n R va ac hl hn hY hr gV;have gK:=Qaa xs;clear gM hx hc
 by_cases wL:QdC ac=true/\szB sz=true
 case neg =>
  have e1:rsO xs n S R va sz ac=false:=by
   unfold rsO
   cases h:QdC ac with
   | false=>rfl
   | true =>
    cases h2:szB sz with
    | false=>rfl
    | true=>exact absurd ⟨h,h2⟩ wL
  have e2:QdC ac=false\/szB sz=false:=by
   cases h:QdC ac with
   | false=>exact .inl rfl
   | true =>
    cases h2:szB sz with
    | false=>exact .inr rfl
    | true=>exact absurd ⟨h,h2⟩ wL
  rw [show rsA xs n S R va sz ac=0 by unfold rsA;rw [e1];rfl,show rsM xs n S R va sz ac=xs by unfold rsM;rw [e1];exact zN (fun h=>by cases h.1),show rsK xs n S R va sz ac=5 by unfold rsK;rw [e1,zN (by decide),zP e2]];have hz:szB sz=false->sz≠1/\sz≠4:=fun h=>by unfold szB at h;simpa using h
  generalize QdC ac=kb,wsv xs=XX at *
  cases kb with
  | false =>
   clear hw hz;refine fnW Tryz.func90 ?_;(conv=>whnf);(repeat' ((first|exact zi2|refine zj0 fun hb=>?_|(refine zpu vF ?_)|refine zse ?_|refine zbb ?_ ?_)<;>conv=>whnf))
   all_goals first|(exact Qb5)
  | true =>
   obtain ⟨_,_⟩:=hz (by rcases e2 with h|h;cases h;exact h);clear hw;refine fnW Tryz.func90 ?_;(repeat' ((conv=>whnf);first|exact zi2|refine zj0 fun hb=>?_|(refine zpu vF ?_)|refine zse ?_|refine zbb ?_ ?_))
   all_goals exact Qeg
 obtain ⟨k1,k2⟩:=wL;rw [k1] at vF;have fQ:sz=1\/sz=4:=by unfold szB at k2;simpa using k2
 by_cases gZ:(va:Int)%sz=0
 case neg =>
  have e1:rsO xs n S R va sz ac=false:=by unfold rsO;rw [zdf gZ,Bool.and_false];rfl
  rw [show rsA xs n S R va sz ac=0 by unfold rsA;rw [e1];rfl,show rsM xs n S R va sz ac=xs by unfold rsM;rw [e1];exact zN (fun h=>by cases h.1),show rsK xs n S R va sz ac=3 by unfold rsK;rw [e1,zN (by decide),zN (by rw [k1,k2];simp),zN gZ]];obtain rfl:sz=4:=by rcases fQ with rfl|rfl;omega;rfl
  have m1:Int.tmod (va:Int) 4=((va%4:Nat):Int):=QuJ;have m2:va%4≠0:=by omega
  generalize va%4=va4,wsv xs=XX at *;clear hw;refine fnW Tryz.func90 ?_;(repeat' ((conv=>whnf);first|exact zi2|refine zj0 fun hb=>?_|(with_reducible refine zv m1 ?_)|(refine zpu vF ?_)|refine zse ?_|refine zbb ?_ ?_))
  all_goals exact Qeg
 have qF:=Qk7 xs n va sz fQ hn gV;have m0:Int.tmod (va:Int) sz=0:=by rw [Int.tmod_eq_emod_of_nonneg (by omega)];exact gZ
 cases fZ:Qc5 S with
 | true =>
  obtain ⟨_,_⟩:S%2=0/\S / 4%2=1:=by unfold Qc5 at fZ;simpa using fZ
  rw [fZ] at hk
  cases hok:Qbl xs n R va ac with
  | false =>
   have e1:rsO xs n S R va sz ac=false:=by unfold rsO;rw [fZ,hok];simp
   rw [show rsA xs n S R va sz ac=0 by unfold rsA;rw [e1];rfl,show rsM xs n S R va sz ac=xs by unfold rsM;rw [e1];exact zN (fun h=>by cases h.1),show rsK xs n S R va sz ac=Qcs ac by unfold rsK;rw [e1,zN (by decide),zN (by rw [k1,k2];simp),zP gZ]];unfold Qfx at hw;rw [hok,zN (by decide)] at hw;have GQ:Qcs ac≠0:=by unfold Qcs;split;omega;split<;>omega
   generalize Qcs ac=cz,wsv xs=XX at *;rcases fQ with rfl|rfl
   all_goals
    refine fnW Tryz.func90 ?_;(conv=>whnf);(repeat' ((first|exact zi2|refine zj0 fun hb=>?_|(with_reducible refine zv m0 ?_)|((with_reducible apply Ge.mk (α:=SV)); . exact g6)|refine QAm ?_|(refine zpu hk ?_)|(refine QaD hw ?_)|(refine zpu vF ?_)|refine zse ?_|refine zbb ?_ ?_)<;>conv=>whnf))
    all_goals first|(exact Qb5)
  | true =>
   have e1:rsO xs n S R va sz ac=true:=by unfold rsO;rw [fZ,hok,k1,k2,zdt gZ];rfl
   obtain ⟨l1,l2,_⟩:=QvO hok hn;have UK:=Qty xs n (Qa6 R va) ac hl hn hY l2 l1;rw [show rsA xs n S R va sz ac=frW (QaR xs R va)*128+va%128 by unfold rsA;rw [e1,zP rfl,fZ,zP rfl],show rsM xs n S R va sz ac=xs.set (Qa6 R va / 4) (QbG (xs.getD (Qa6 R va / 4) 0) ac) by unfold rsM;rw [e1,fZ];exact zP ⟨rfl,rfl⟩,show rsK xs n S R va sz ac=0 by unfold rsK;rw [e1,zP rfl]];unfold Qfx at hw;rw [hok,zP rfl] at hw;have gW:=Qaa (xs.set (Qa6 R va / 4) (QbG (xs.getD (Qa6 R va / 4) 0) ac));generalize wsv (xs.set (Qa6 R va / 4) (QbG (xs.getD (Qa6 R va / 4) 0) ac))=X2 at *;generalize Qa6 R va=E,frW (QaR xs R va)*128+va%128=AA,Qcs ac=cz,wsv xs=XX at *;rcases fQ with rfl|rfl
   all_goals
    refine fnW Tryz.func90 ?_;(conv=>whnf);(repeat' ((first|exact zi2|refine zj0 fun hb=>?_|(with_reducible refine zv m0 ?_)|((with_reducible apply Ge.mk (α:=SV)); . exact g6)|refine QAm ?_|(refine zpu hk ?_)|(refine QaD hw ?_)|(refine zpu vF ?_)|(refine Qg7 UK ?_)|refine zse ?_|refine zbb ?_ ?_)<;>conv=>whnf))
    all_goals first|(exact Qb5)
 | false =>
  have hnp:S%2=1\/(S%2=0/\S / 4%2=0):=by unfold Qc5 at fZ;simp at fZ;omega
  have eM:rsM xs n S R va sz ac=xs:=by unfold rsM;rw [fZ];exact zN (fun h=>by cases h.2)
  have eO:rsO xs n S R va sz ac=acB sz n va:=by unfold rsO;rw [fZ,k1,k2,zdt gZ];simp
  have eA:rsA xs n S R va sz ac=if acB sz n va=true then va else 0:=by unfold rsA;rw [eO,fZ];simp
  have eK:rsK xs n S R va sz ac=if acB sz n va=true then 0 else Qcs ac:=QDG
  rw [eM,eA,eK];clear eM eO eA eK hw;generalize Qcs ac=cz,acB sz n va=ok,wsv xs=XX at *;rw [fZ] at hk;cases ok<;>rcases fQ with rfl|rfl
  all_goals
   refine fnW Tryz.func90 ?_;(repeat' ((conv=>whnf);first|exact zi2|refine zj0 fun hb=>?_|(with_reducible refine zv m0 ?_)|refine QAm ?_|(refine zpu yZ ?_)|(refine zpu hk ?_)|(refine QaD qF ?_)|(refine zpu vF ?_)|refine zse ?_|refine zbb ?_ ?_))
   all_goals exact Qeg
theorem Qnm (x:List Nat) (pc:Nat) (c:List Nat) (o:Int) (A B C:Nat) (m:Int) (hx:x.length=16) (hc:c.length=8) (hY:ZL x) (gA:ZL c) (gQ:ZU pc) (hA:A<16) (hB:B<16) (hC:C<16) (hm:o=58->0<=m/\m<8) (gB: -32768<=m/\m<=65535) (ho:(40<=o/\o<=45)/\Qc7 o (x.getD A 0) (x.getD B 0)=true) :
  FN 93 [.agg (Qax x pc c),.agg (iv o A B C m)] [] (. =⟨.a (.agg (Qax (exX x pc c o A B C m) (exP x pc c o A B m) (exC x pc c o A m))),[],[]⟩):=by
 have eX:exX x pc c o A B C m=x:=Qhb;have eP:exP x pc c o A B m=w32 ((pc:Int)+w32 (4*(w32 m:Nat))):=QuL;have eC:exC x pc c o A m=c:=Qf5;rw [eX,eP,eC];have rA:=Qav x pc c A hx hA;have rB:=Qav x pc c B hx hB;have rC:=Qav x pc c C hx hC;have qm:IntKind.u32.wrap m=((w32 m:Nat):Int):=Qau m;have q4:IntKind.u32.wrap ((pc:Int)+4)=((w32 ((pc:Int)+4):Nat):Int):=Qau _;have q4m:IntKind.u32.wrap (4*((w32 m:Nat):Int))=((w32 (4*(w32 m:Nat)):Nat):Int):=Qau _;have xA:=Qab hY A;have xB:=Qab hY B;have lm:=QaE m;have gS:=Qao (x) (pc) (c) hx hc;have jG:=Qal (x) (pc) (c);have qL:=Qag (x) (pc) (c);have qR:=Qah gS;have gpCC:=QaA (x) (pc) (c) hx;obtain ⟨PP,qQ⟩:∃ PP,w32 ((pc:Int)+w32 (4*(w32 m:Nat)))=PP:=⟨_,rfl⟩;rw [qQ];have qT:IntKind.u32.wrap ((pc:Int)+((w32 (4*(w32 m:Nat)):Nat):Int))=(PP:Int):=by rw [Qau,qQ]
 have jJ:=QjE o (x.getD A 0) (x.getD B 0) xA xB;rw [ho.2] at jJ;replace ho:=ho.1;have qW:=QaN x pc c PP hx;have gC:=Qao (x) (PP) (c) hx hc;have fO:=Qal (x) (PP) (c);have gR:=Qag (x) (PP) (c);have fD:=Qah gC;have gpC3:=QaA (x) (PP) (c) hx;generalize Qax (x) (PP) (c)=C3 at *;clear eX eP eC;generalize x.getD A 0=vA,x.getD B 0=vB,x.getD C 0=vC,Qax (x) (pc) (c)=CC,w32 (4*((w32 m:Nat):Int))=m4 at *;generalize w32 m=mm,w32 ((pc:Int)+4)=p4 at *;refine fnW Tryz.func93 ?_;(repeat' ((conv=>whnf);first|exact zi2|refine zj0 fun hb=>?_|refine QEK ?_|refine zq9 ?_|refine QEI ?_|(apply Sg.mk; . exact Qa4 C3 gC)|refine QEM ?_|(refine zpu jJ ?_)|refine zse ?_|refine zbb ?_ ?_))
 all_goals exact zF_
theorem Qk2 (x:List Nat) (pc:Nat) (c:List Nat) (o:Int) (A B C:Nat) (m:Int) (hx:x.length=16) (hc:c.length=8) (hY:ZL x) (gA:ZL c) (gQ:ZU pc) (hA:A<16) (hB:B<16) (hC:C<16) (hm:o=58->0<=m/\m<8) (gB: -32768<=m/\m<=65535) (ho:(40<=o/\o<=45)/\Qc7 o (x.getD A 0) (x.getD B 0)=false) :
  FN 93 [.agg (Qax x pc c),.agg (iv o A B C m)] [] (. =⟨.a (.agg (Qax (exX x pc c o A B C m) (exP x pc c o A B m) (exC x pc c o A m))),[],[]⟩):=by
 have eX:exX x pc c o A B C m=x:=Qhb;have eP:exP x pc c o A B m=w32 ((pc:Int)+4):=QuL;have eC:exC x pc c o A m=c:=Qf5;rw [eX,eP,eC];have rA:=Qav x pc c A hx hA;have rB:=Qav x pc c B hx hB;have rC:=Qav x pc c C hx hC;have qm:IntKind.u32.wrap m=((w32 m:Nat):Int):=Qau m;have q4:IntKind.u32.wrap ((pc:Int)+4)=((w32 ((pc:Int)+4):Nat):Int):=Qau _;have q4m:IntKind.u32.wrap (4*((w32 m:Nat):Int))=((w32 (4*(w32 m:Nat)):Nat):Int):=Qau _;have xA:=Qab hY A;have xB:=Qab hY B;have lm:=QaE m;have gS:=Qao (x) (pc) (c) hx hc;have jG:=Qal (x) (pc) (c);have qL:=Qag (x) (pc) (c);have qR:=Qah gS;have gpCC:=QaA (x) (pc) (c) hx;obtain ⟨PP,qQ⟩:∃ PP,w32 ((pc:Int)+4)=PP:=⟨_,rfl⟩;rw [qQ];rw [qQ] at q4;have jJ:=QjE o (x.getD A 0) (x.getD B 0) xA xB;rw [ho.2] at jJ;replace ho:=ho.1;have qW:=QaN x pc c PP hx;have gC:=Qao (x) (PP) (c) hx hc;have fO:=Qal (x) (PP) (c);have gR:=Qag (x) (PP) (c);have fD:=Qah gC;have gpC3:=QaA (x) (PP) (c) hx;generalize Qax (x) (PP) (c)=C3 at *;clear eX eP eC;generalize x.getD A 0=vA,x.getD B 0=vB,x.getD C 0=vC,Qax (x) (pc) (c)=CC,w32 (4*((w32 m:Nat):Int))=m4 at *;generalize w32 m=mm,w32 ((pc:Int)+4)=p4 at *;refine fnW Tryz.func93 ?_;(repeat' ((conv=>whnf);first|exact zi2|refine zj0 fun hb=>?_|(with_reducible refine zv q4 ?_)|refine zq9 ?_|refine QEI ?_|(apply Sg.mk; . exact Qa4 C3 gC)|refine QEM ?_|(refine zpu jJ ?_)|refine zse ?_|refine zbb ?_ ?_))
 all_goals exact zF_
theorem QCc (x:List Nat) (pc:Nat) (c:List Nat) (o:Int) (A B C:Nat) (m:Int) (hx:x.length=16) (hc:c.length=8) (hY:ZL x) (gA:ZL c) (gQ:ZU pc) (hA:A<16) (hB:B<16) (hC:C<16) (hm:o=58->0<=m/\m<8) (gB: -32768<=m/\m<=65535) (ho:o=48) :
  FN 93 [.agg (Qax x pc c),.agg (iv o A B C m)] [] (. =⟨.a (.agg (Qax (exX x pc c o A B C m) (exP x pc c o A B m) (exC x pc c o A m))),[],[]⟩):=by
 have eX:exX x pc c o A B C m=QaC x A (w32 ((pc:Int)+4)):=QuE;have eP:exP x pc c o A B m=w32 ((pc:Int)+w32 (4*(w32 m:Nat))):=by unfold exP;rw [zN (by omega),zP (by omega)]
 have eC:exC x pc c o A m=c:=Qf5;rw [eX,eP,eC];have rA:=Qav x pc c A hx hA;have rB:=Qav x pc c B hx hB;have rC:=Qav x pc c C hx hC;have qm:IntKind.u32.wrap m=((w32 m:Nat):Int):=Qau m;have q4:IntKind.u32.wrap ((pc:Int)+4)=((w32 ((pc:Int)+4):Nat):Int):=Qau _;have q4m:IntKind.u32.wrap (4*((w32 m:Nat):Int))=((w32 (4*(w32 m:Nat)):Nat):Int):=Qau _;have xA:=Qab hY A;have xB:=Qab hY B;have lm:=QaE m;have gS:=Qao (x) (pc) (c) hx hc;have jG:=Qal (x) (pc) (c);have qL:=Qag (x) (pc) (c);have qR:=Qah gS;have gpCC:=QaA (x) (pc) (c) hx;obtain ⟨V,hV⟩:∃ V,w32 ((pc:Int)+4)=V:=⟨_,rfl⟩;obtain ⟨PP,qQ⟩:∃ PP,w32 ((pc:Int)+w32 (4*(w32 m:Nat)))=PP:=⟨_,rfl⟩;rw [hV,qQ];rw [hV] at q4;have qT:IntKind.u32.wrap ((pc:Int)+((w32 (4*(w32 m:Nat)):Nat):Int))=(PP:Int):=by rw [Qau,qQ]
 exact QHD
theorem Qyf (x:List Nat) (pc:Nat) (c:List Nat) (o:Int) (A B C:Nat) (m:Int) (hx:x.length=16) (hc:c.length=8) (hY:ZL x) (gA:ZL c) (gQ:ZU pc) (hA:A<16) (hB:B<16) (hC:C<16) (hm:o=58->0<=m/\m<8) (gB: -32768<=m/\m<=65535) (ho:o=49) :
  FN 93 [.agg (Qax x pc c),.agg (iv o A B C m)] [] (. =⟨.a (.agg (Qax (exX x pc c o A B C m) (exP x pc c o A B m) (exC x pc c o A m))),[],[]⟩):=by
 have eX:exX x pc c o A B C m=QaC x A (w32 ((pc:Int)+4)):=QuE;have eP:exP x pc c o A B m=w32 ((x.getD B 0:Nat)+(w32 m:Nat)):=by unfold exP;rw [zN (by omega),zN (by omega),zP (by omega)]
 have eC:exC x pc c o A m=c:=Qf5;rw [eX,eP,eC];have rA:=Qav x pc c A hx hA;have rB:=Qav x pc c B hx hB;have rC:=Qav x pc c C hx hC;have qm:IntKind.u32.wrap m=((w32 m:Nat):Int):=Qau m;have q4:IntKind.u32.wrap ((pc:Int)+4)=((w32 ((pc:Int)+4):Nat):Int):=Qau _;have q4m:IntKind.u32.wrap (4*((w32 m:Nat):Int))=((w32 (4*(w32 m:Nat)):Nat):Int):=Qau _;have xA:=Qab hY A;have xB:=Qab hY B;have lm:=QaE m;have gS:=Qao (x) (pc) (c) hx hc;have jG:=Qal (x) (pc) (c);have qL:=Qag (x) (pc) (c);have qR:=Qah gS;have gpCC:=QaA (x) (pc) (c) hx;obtain ⟨V,hV⟩:∃ V,w32 ((pc:Int)+4)=V:=⟨_,rfl⟩;obtain ⟨PP,qQ⟩:∃ PP,w32 ((x.getD B 0:Nat)+(w32 m:Nat))=PP:=⟨_,rfl⟩;rw [hV,qQ];rw [hV] at q4;have qT:IntKind.u32.wrap (((x.getD B 0:Nat):Int)+((w32 m:Nat):Int))=(PP:Int):=by rw [Qau,qQ]
 exact QHD
theorem Qt5 (x:List Nat) (pc:Nat) (c:List Nat) (o:Int) (A B C:Nat) (m:Int) (hx:x.length=16) (hc:c.length=8) (hY:ZL x) (gA:ZL c) (gQ:ZU pc) (hA:A<16) (hB:B<16) (hC:C<16) (hm:o=58->0<=m/\m<8) (gB: -32768<=m/\m<=65535) (ho:o=56) :
  FN 92 [.agg (Qax x pc c),.agg (iv o A B C m)] [] (. =⟨.tup [.agg (Qax (exX x pc c o A B C m) (exP x pc c o A B m) (exC x pc c o A m)),.agg (exE x o A m)],[],[]⟩):=by
 have eX:exX x pc c o A B C m=x:=Qhb;have eP:exP x pc c o A B m=c.getD 1 0:=QDI;have eC:exC x pc c o A m=trL pc c 7 0:=by unfold exC;rw [zP (by omega)]
 have eE:exE x o A m= [.i 0,.i 0,.i 0,.u (0:Nat)]:=Qkc;rw [eX,eP,eC,eE];have rA:=Qav x pc c A hx hA;have rB:=Qav x pc c B hx hB;have rC:=Qav x pc c C hx hC;have qm:IntKind.u32.wrap m=((w32 m:Nat):Int):=Qau m;have q4:IntKind.u32.wrap ((pc:Int)+4)=((w32 ((pc:Int)+4):Nat):Int):=Qau _;have q4m:IntKind.u32.wrap (4*((w32 m:Nat):Int))=((w32 (4*(w32 m:Nat)):Nat):Int):=Qau _;have xA:=Qab hY A;have xB:=Qab hY B;have lm:=QaE m;have gS:=Qao (x) (pc) (c) hx hc;have jG:=Qal (x) (pc) (c);have qL:=Qag (x) (pc) (c);have qR:=Qah gS;have gpCC:=QaA (x) (pc) (c) hx;have fK:=QcX x pc c 7 0 hx hc gA;rw [Qbk] at fK;have gC:=Qao (x) (c.getD 1 0) (trL pc c 7 0) hx (by first|rfl|simpa using hc);have fO:=Qal (x) (c.getD 1 0) (trL pc c 7 0);have gR:=Qag (x) (c.getD 1 0) (trL pc c 7 0);have fD:=Qah gC;have gpC3:=QaA (x) (c.getD 1 0) (trL pc c 7 0) hx;generalize Qax (x) (c.getD 1 0) (trL pc c 7 0)=C3 at *;exact QHG
theorem Qyo (x:List Nat) (pc:Nat) (c:List Nat) (o:Int) (A B C:Nat) (m:Int) (hx:x.length=16) (hc:c.length=8) (hY:ZL x) (gA:ZL c) (gQ:ZU pc) (hA:A<16) (hB:B<16) (hC:C<16) (hm:o=58->0<=m/\m<8) (gB: -32768<=m/\m<=65535) (ho:o=57) :
  FN 92 [.agg (Qax x pc c),.agg (iv o A B C m)] [] (. =⟨.tup [.agg (Qax (exX x pc c o A B C m) (exP x pc c o A B m) (exC x pc c o A m)),.agg (exE x o A m)],[],[]⟩):=by
 have eX:exX x pc c o A B C m=x:=Qhb;have eP:exP x pc c o A B m=c.getD 2 0:=QDD;have eC:exC x pc c o A m=c.set 0 (QgG (c.getD 0 0)):=by unfold exC;rw [zN (by omega),zP (by omega)]
 have eE:exE x o A m= [.i 0,.i 0,.i 0,.u (0:Nat)]:=Qkc;rw [eX,eP,eC,eE];have rA:=Qav x pc c A hx hA;have rB:=Qav x pc c B hx hB;have rC:=Qav x pc c C hx hC;have qm:IntKind.u32.wrap m=((w32 m:Nat):Int):=Qau m;have q4:IntKind.u32.wrap ((pc:Int)+4)=((w32 ((pc:Int)+4):Nat):Int):=Qau _;have q4m:IntKind.u32.wrap (4*((w32 m:Nat):Int))=((w32 (4*(w32 m:Nat)):Nat):Int):=Qau _;have xA:=Qab hY A;have xB:=Qab hY B;have lm:=QaE m;have gS:=Qao (x) (pc) (c) hx hc;have jG:=Qal (x) (pc) (c);have qL:=Qag (x) (pc) (c);have qR:=Qah gS;have gpCC:=QaA (x) (pc) (c) hx;have fK:=Qyk x pc c hx hc gA;unfold QEA at fK;have gC:=Qao (x) (c.getD 2 0) (c.set 0 (QgG (c.getD 0 0))) hx (by first|rfl|simpa using hc);have fO:=Qal (x) (c.getD 2 0) (c.set 0 (QgG (c.getD 0 0)));have gR:=Qag (x) (c.getD 2 0) (c.set 0 (QgG (c.getD 0 0)));have fD:=Qah gC;have gpC3:=QaA (x) (c.getD 2 0) (c.set 0 (QgG (c.getD 0 0))) hx;generalize Qax (x) (c.getD 2 0) (c.set 0 (QgG (c.getD 0 0)))=C3 at *;exact QHG
theorem Qym (x:List Nat) (pc:Nat) (c:List Nat) (o:Int) (A B C:Nat) (m:Int) (hx:x.length=16) (hc:c.length=8) (hY:ZL x) (gA:ZL c) (gQ:ZU pc) (hA:A<16) (hB:B<16) (hC:C<16) (hm:o=58->0<=m/\m<8) (gB: -32768<=m/\m<=65535) (ho:o=58) :
  FN 92 [.agg (Qax x pc c),.agg (iv o A B C m)] [] (. =⟨.tup [.agg (Qax (exX x pc c o A B C m) (exP x pc c o A B m) (exC x pc c o A m)),.agg (exE x o A m)],[],[]⟩):=by
 have eX:exX x pc c o A B C m=QaC x A (c.getD m.toNat 0):=QDC;have eP:exP x pc c o A B m=w32 ((pc:Int)+4):=QiB;have eC:exC x pc c o A m=c:=Qf5;have eE:exE x o A m= [.i 0,.i 0,.i 0,.u (0:Nat)]:=Qkc;rw [eX,eP,eC,eE];have rA:=Qav x pc c A hx hA;have rB:=Qav x pc c B hx hB;have rC:=Qav x pc c C hx hC;have qm:IntKind.u32.wrap m=((w32 m:Nat):Int):=Qau m;have q4:IntKind.u32.wrap ((pc:Int)+4)=((w32 ((pc:Int)+4):Nat):Int):=Qau _;have q4m:IntKind.u32.wrap (4*((w32 m:Nat):Int))=((w32 (4*(w32 m:Nat)):Nat):Int):=Qau _;have xA:=Qab hY A;have xB:=Qab hY B;have lm:=QaE m;have gS:=Qao (x) (pc) (c) hx hc;have jG:=Qal (x) (pc) (c);have qL:=Qag (x) (pc) (c);have qR:=Qah gS;have gpCC:=QaA (x) (pc) (c) hx;obtain ⟨V,hV⟩:∃ V,c.getD m.toNat 0=V:=⟨_,rfl⟩;obtain ⟨PP,qQ⟩:∃ PP,w32 ((pc:Int)+4)=PP:=⟨_,rfl⟩;rw [hV,qQ];rw [qQ] at q4;have hm8:=hm ho;have rM:=Qdf x pc c m.toNat hx hc (by omega);rw [hV] at rM;have gN:=QgM x pc c A V hx hc hA;have qW:=QaN (QaC x A V) pc c PP (by rw [Qay];exact hx);have qK:=Qao (QaC x A V) (pc) (c) (by rw [Qay];exact hx) hc;have uJ:=Qal (QaC x A V) (pc) (c);have jQ:=Qag (QaC x A V) (pc) (c);have wJ:=Qah qK;have gpC2:=QaA (QaC x A V) (pc) (c) (by rw [Qay];exact hx);have gC:=Qao (QaC x A V) (PP) (c) (by rw [Qay];exact hx) hc;have fO:=Qal (QaC x A V) (PP) (c);have gR:=Qag (QaC x A V) (PP) (c);have fD:=Qah gC;have gpC3:=QaA (QaC x A V) (PP) (c) (by rw [Qay];exact hx);generalize Qax (QaC x A V) (PP) (c)=C3,Qax (QaC x A V) (pc) (c)=C2 at *;clear eX eP eC eE;generalize x.getD A 0=vA,x.getD B 0=vB,x.getD C 0=vC,Qax (x) (pc) (c)=CC,w32 (4*((w32 m:Nat):Int))=m4 at *;generalize w32 m=mm,w32 ((pc:Int)+4)=p4 at *;refine fnW Tryz.func92 ?_;(repeat' ((conv=>whnf);first|exact zi2|refine zj0 fun hb=>?_|(with_reducible refine zv q4 ?_)|(apply Sd.mk; . first|exact ⟨gC,gR,rfl,(by show 0+C3.length<=25;omega)⟩|exact ⟨qK,jQ,rfl,(by show 0+C2.length<=CC.length;omega)⟩|(show (0:Int)<=m/\m<(8:Int);omega)|(refine ⟨rfl,rfl,rfl,?_⟩;show 0+16+1<=C2.length;omega))|refine QHl ?_|refine zq1 ?_|((with_reducible apply Ge.mk (α:=SV)); . first|exact rM|exact gpC2)|(refine zpu gN ?_)|refine zse ?_|refine zbb ?_ ?_))
 all_goals exact zF_
theorem Qyn (x:List Nat) (pc:Nat) (c:List Nat) (o:Int) (A B C:Nat) (m:Int) (hx:x.length=16) (hc:c.length=8) (hY:ZL x) (gA:ZL c) (gQ:ZU pc) (hA:A<16) (hB:B<16) (hC:C<16) (hm:o=58->0<=m/\m<8) (gB: -32768<=m/\m<=65535) (ho:o=59) :
  FN 92 [.agg (Qax x pc c),.agg (iv o A B C m)] [] (. =⟨.tup [.agg (Qax (exX x pc c o A B C m) (exP x pc c o A B m) (exC x pc c o A m)),.agg (exE x o A m)],[],[]⟩):=by
 have eX:exX x pc c o A B C m=x:=Qhb;have eP:exP x pc c o A B m=w32 ((pc:Int)+4):=QiB;have eC:exC x pc c o A m=wrL c m (x.getD A 0):=by unfold exC;rw [zN (by omega),zN (by omega),zP (by omega)]
 have eE:exE x o A m= [.i 0,.i 0,.i 0,.u (0:Nat)]:=Qkc;rw [eX,eP,eC,eE];have rA:=Qav x pc c A hx hA;have rB:=Qav x pc c B hx hB;have rC:=Qav x pc c C hx hC;have qm:IntKind.u32.wrap m=((w32 m:Nat):Int):=Qau m;have q4:IntKind.u32.wrap ((pc:Int)+4)=((w32 ((pc:Int)+4):Nat):Int):=Qau _;have q4m:IntKind.u32.wrap (4*((w32 m:Nat):Int))=((w32 (4*(w32 m:Nat)):Nat):Int):=Qau _;have xA:=Qab hY A;have xB:=Qab hY B;have lm:=QaE m;have gS:=Qao (x) (pc) (c) hx hc;have jG:=Qal (x) (pc) (c);have qL:=Qag (x) (pc) (c);have qR:=Qah gS;have gpCC:=QaA (x) (pc) (c) hx;have gN:=Qrl x pc c m (x.getD A 0) hx hc xA;rw [QvP] at gN;have qW:=QaN x pc (wrL c m (x.getD A 0)) (w32 ((pc:Int)+4)) hx;have qK:=Qao (x) (pc) (wrL c m (x.getD A 0)) hx (by rw [QgV];exact hc);have uJ:=Qal (x) (pc) (wrL c m (x.getD A 0));have jQ:=Qag (x) (pc) (wrL c m (x.getD A 0));have wJ:=Qah qK;have gpC2:=QaA (x) (pc) (wrL c m (x.getD A 0)) hx;have gC:=Qao (x) (w32 ((pc:Int)+4)) (wrL c m (x.getD A 0)) hx (by rw [QgV];exact hc);have fO:=Qal (x) (w32 ((pc:Int)+4)) (wrL c m (x.getD A 0));have gR:=Qag (x) (w32 ((pc:Int)+4)) (wrL c m (x.getD A 0));have fD:=Qah gC;have gpC3:=QaA (x) (w32 ((pc:Int)+4)) (wrL c m (x.getD A 0)) hx;generalize Qax (x) (w32 ((pc:Int)+4)) (wrL c m (x.getD A 0))=C3,Qax (x) (pc) (wrL c m (x.getD A 0))=C2 at *;clear eX eP eC eE;generalize x.getD A 0=vA,x.getD B 0=vB,x.getD C 0=vC,Qax (x) (pc) (c)=CC,w32 (4*((w32 m:Nat):Int))=m4 at *;generalize w32 m=mm,w32 ((pc:Int)+4)=p4 at *;refine fnW Tryz.func92 ?_;(repeat' ((conv=>whnf);first|exact zi2|refine zj0 fun hb=>?_|(with_reducible refine zv q4 ?_)|(apply Sd.mk; . first|exact ⟨gC,gR,rfl,(by show 0+C3.length<=25;omega)⟩|exact ⟨qK,jQ,rfl,(by show 0+C2.length<=CC.length;omega)⟩|(show (0:Int)<=A/\(A:Int)<16;omega)|(refine ⟨rfl,rfl,rfl,?_⟩;show 0+16+1<=C2.length;omega))|refine QHl ?_|refine zq1 ?_|((with_reducible apply Ge.mk (α:=SV)); . first|exact rA|exact gpC2)|(refine zpu gN ?_)|refine zse ?_|refine zbb ?_ ?_))
 all_goals exact zF_
theorem QFP (x:List Nat) (pc:Nat) (c:List Nat) (o:Int) (A B C:Nat) (m:Int) (hx:x.length=16) (hc:c.length=8) (hY:ZL x) (gA:ZL c) (gQ:ZU pc) (hA:A<16) (hB:B<16) (hC:C<16) (hm:o=58->0<=m/\m<8) (gB: -32768<=m/\m<=65535) (ho:o=60) :
  FN 92 [.agg (Qax x pc c),.agg (iv o A B C m)] [] (. =⟨.tup [.agg (Qax (exX x pc c o A B C m) (exP x pc c o A B m) (exC x pc c o A m)),.agg (exE x o A m)],[],[]⟩):=by
 have eX:exX x pc c o A B C m=x:=Qhb;have eP:exP x pc c o A B m=w32 ((pc:Int)+4):=QiB;have eC:exC x pc c o A m=c:=Qf5;have eE:exE x o A m= [.i 1,.i m,.i (A:Nat),.u (0:Nat)]:=by unfold exE;rw [zP (by omega)]
 exact QC9
theorem QCe (x:List Nat) (pc:Nat) (c:List Nat) (o:Int) (A B C:Nat) (m:Int) (hx:x.length=16) (hc:c.length=8) (hY:ZL x) (gA:ZL c) (gQ:ZU pc) (hA:A<16) (hB:B<16) (hC:C<16) (hm:o=58->0<=m/\m<8) (gB: -32768<=m/\m<=65535) (ho:o=61) :
  FN 92 [.agg (Qax x pc c),.agg (iv o A B C m)] [] (. =⟨.tup [.agg (Qax (exX x pc c o A B C m) (exP x pc c o A B m) (exC x pc c o A m)),.agg (exE x o A m)],[],[]⟩):=by
 have eX:exX x pc c o A B C m=x:=Qhb;have eP:exP x pc c o A B m=w32 ((pc:Int)+4):=QiB;have eC:exC x pc c o A m=c:=Qf5;have eE:exE x o A m= [.i 2,.i m,.i 0,.u (x.getD A 0:Nat)]:=by unfold exE;rw [zN (by omega),zP (by omega)]
 exact QC9
theorem QCf (x:List Nat) (pc:Nat) (c:List Nat) (o:Int) (A B C:Nat) (m:Int) (hx:x.length=16) (hc:c.length=8) (hY:ZL x) (gA:ZL c) (gQ:ZU pc) (hA:A<16) (hB:B<16) (hC:C<16) (hm:o=58->0<=m/\m<8) (gB: -32768<=m/\m<=65535) (ho:o=62) :
  FN 92 [.agg (Qax x pc c),.agg (iv o A B C m)] [] (. =⟨.tup [.agg (Qax (exX x pc c o A B C m) (exP x pc c o A B m) (exC x pc c o A m)),.agg (exE x o A m)],[],[]⟩):=by
 have eX:exX x pc c o A B C m=x:=Qhb;have eP:exP x pc c o A B m=w32 ((pc:Int)+4):=QiB;have eC:exC x pc c o A m=c:=Qf5;have eE:exE x o A m= [.i 3,.i 0,.i 0,.u (0:Nat)]:=by unfold exE;rw [zN (by omega),zN (by omega),zP (by omega)]
 exact QC9
theorem Qt6 (x:List Nat) (pc:Nat) (c:List Nat) (o:Int) (A B C:Nat) (m:Int) (hx:x.length=16) (hc:c.length=8) (hY:ZL x) (gA:ZL c) (gQ:ZU pc) (hA:A<16) (hB:B<16) (hC:C<16) (hm:o=58->0<=m/\m<8) (gB: -32768<=m/\m<=65535) (ho:o=63) :
  FN 92 [.agg (Qax x pc c),.agg (iv o A B C m)] [] (. =⟨.tup [.agg (Qax (exX x pc c o A B C m) (exP x pc c o A B m) (exC x pc c o A m)),.agg (exE x o A m)],[],[]⟩):=by
 have eX:exX x pc c o A B C m=x:=Qhb;have eP:exP x pc c o A B m=w32 ((pc:Int)+4):=QiB;have eC:exC x pc c o A m=c:=Qf5;have eE:exE x o A m= [.i 5,.i 0,.i 0,.u (0:Nat)]:=QDJ;exact QC9
theorem Qyp (x:List Nat) (pc:Nat) (c:List Nat) (o:Int) (A B C:Nat) (m:Int) (hx:x.length=16) (hc:c.length=8) (hY:ZL x) (gA:ZL c) (gQ:ZU pc) (hA:A<16) (hB:B<16) (hC:C<16) (hm:o=58->0<=m/\m<8) (gB: -32768<=m/\m<=65535) (ho:o=64) :
  FN 92 [.agg (Qax x pc c),.agg (iv o A B C m)] [] (. =⟨.tup [.agg (Qax (exX x pc c o A B C m) (exP x pc c o A B m) (exC x pc c o A m)),.agg (exE x o A m)],[],[]⟩):=by
 have eX:exX x pc c o A B C m=x:=Qhb;have eP:exP x pc c o A B m=w32 ((pc:Int)+4):=QiB;have eC:exC x pc c o A m=c:=Qf5;have eE:exE x o A m= [.i 4,.i 0,.i 0,.u (0:Nat)]:=QDE;exact QC9
theorem QtY (x:List Nat) (pc:Nat) (c:List Nat) (o:Int) (A B C:Nat) (m:Int) (hx:x.length=16) (hc:c.length=8) (hY:ZL x) (gA:ZL c) (gQ:ZU pc) (hA:A<16) (hB:B<16) (hC:C<16) (hm:o=58->0<=m/\m<8) (gB: -32768<=m/\m<=65535) (ho:40<=o/\o<=45\/o=48\/o=49) :
  FN 93 [.agg (Qax x pc c),.agg (iv o A B C m)] [] (. =⟨.a (.agg (Qax (exX x pc c o A B C m) (exP x pc c o A B m) (exC x pc c o A m))),[],[]⟩):=by
 rcases ho with h|h|h
 .cases h3:Qc7 o (x.getD A 0) (x.getD B 0) with
  | true=>exact Qnm x pc c o A B C m hx hc hY gA gQ hA hB hC hm gB ⟨h,h3⟩
  | false=>exact Qk2 x pc c o A B C m hx hc hY gA gQ hA hB hC hm gB ⟨h,h3⟩
 .exact QCc x pc c o A B C m hx hc hY gA gQ hA hB hC hm gB h
 .exact Qyf x pc c o A B C m hx hc hY gA gQ hA hB hC hm gB h
theorem Qyy (x:List Nat) (pc:Nat) (c:List Nat) (o:Int) (A B C:Nat) (m:Int) (hx:x.length=16) (hc:c.length=8) (hY:ZL x) (gA:ZL c) (gQ:ZU pc) (hA:A<16) (hB:B<16) (hC:C<16) (hm:o=58->0<=m/\m<8) (gB: -32768<=m/\m<=65535) (ho:56<=o/\o<=64) :
  FN 92 [.agg (Qax x pc c),.agg (iv o A B C m)] [] (. =⟨.tup [.agg (Qax (exX x pc c o A B C m) (exP x pc c o A B m) (exC x pc c o A m)),.agg (exE x o A m)],[],[]⟩):=by
 have e:o=56\/o=57\/o=58\/o=59\/o=60\/o=61\/o=62\/o=63\/o=64:=by omega
 rcases e with h|h|h|h|h|h|h|h|h
 .exact Qt5 x pc c o A B C m hx hc hY gA gQ hA hB hC hm gB h
 .exact Qyo x pc c o A B C m hx hc hY gA gQ hA hB hC hm gB h
 .exact Qym x pc c o A B C m hx hc hY gA gQ hA hB hC hm gB h
 .exact Qyn x pc c o A B C m hx hc hY gA gQ hA hB hC hm gB h
 .exact QFP x pc c o A B C m hx hc hY gA gQ hA hB hC hm gB h
 .exact QCe x pc c o A B C m hx hc hY gA gQ hA hB hC hm gB h
 .exact QCf x pc c o A B C m hx hc hY gA gQ hA hB hC hm gB h
 .exact Qt6 x pc c o A B C m hx hc hY gA gQ hA hB hC hm gB h
 .exact Qyp x pc c o A B C m hx hc hY gA gQ hA hB hC hm gB h
theorem QtZ (x:List Nat) (pc:Nat) (c:List Nat) (xs:List Nat) (n:Nat) (o:Int) (A B C:Nat) (m:Int) (hx:x.length=16) (hc:c.length=8) (gM:ZL c) (gQ:ZU pc) (hl:xs.length=n) (hY:ZL xs) (hn:ZU n) (jK:ZL x) (hA:A<16) (hB:B<16) (ho:32<=o/\o<=34) :
  FN 94 [.agg (Qax x pc c),.s (.sl 0 0 n),.agg (iv o A B C m)] [⟨true,1,wsv xs⟩]
   (. =⟨.a (.agg (Qax (ldX x xs n (c.getD 0 0) (c.getD 6 0) (vaO x B m) o A) (trP pc c (rsK xs n (c.getD 0 0) (c.getD 6 0) (vaO x B m) (wd o) 2)) (trC pc c (rsK xs n (c.getD 0 0) (c.getD 6 0) (vaO x B m) (wd o) 2) (vaO x B m)))),[(0,some ⟨true,1,wsv (rsM xs n (c.getD 0 0) (c.getD 6 0) (vaO x B m) (wd o) 2)⟩)],[]⟩):=by
 have gV:vaO x B m<4294967296:=QaE _;have VH:True:=trivial;have hr:=QgL x pc c xs n (vaO x B m) (wd o) 2 hx hc gM hl hY hn gV;have rA:=Qav x pc c A hx hA;have rB:=Qav x pc c B hx hB;have xA:=Qab jK A;have qm:IntKind.u32.wrap m=((w32 m:Nat):Int):=Qau m;have q4:IntKind.u32.wrap ((pc:Int)+4)=((w32 ((pc:Int)+4):Nat):Int):=Qau _;have qv:IntKind.u32.wrap (((x.getD B 0:Nat):Int)+((w32 m:Nat):Int))=((vaO x B m:Nat):Int):=Qau _;have gK:=Qaa xs;generalize c.getD 0 0=S,c.getD 6 0=R,vaO x B m=va at *;have gS:=Qao (x) (pc) (c) hx hc;have jG:=Qal (x) (pc) (c);have qL:=Qag (x) (pc) (c);have qR:=Qah gS;have gpCC:=QaA (x) (pc) (c) hx;have JE:=Qaa (rsM xs n S R va (wd o) 2);unfold ldX trP trC
 by_cases hK:rsK xs n S R va (wd o) 2=0
 .have hok:=Qhs hK
  obtain ⟨ha,wA⟩:=Qhr hok gV;have gH:(rsM xs n S R va (wd o) 2).length=n:=by rw [Qbh];exact hl
  have gB:=Qc2 xs n S R va (wd o) 2 hY;rw [zP hK,zP hK,zP hK];rw [hK] at hr;generalize rsM xs n S R va (wd o) 2=M,rsA xs n S R va (wd o) 2=AA at *
  obtain ⟨V0,qF,hV⟩:∃ V0,FN 87 [.s (.sl 0 0 n),.s (.u AA),.s (.i (wd o))] [⟨false,1,wsv M⟩] (. =⟨.tup [.s (.u ((V0:Nat):Int)),.s (.bool true)],[],[]⟩)/\V0<4294967296/\ldV o M AA=(if o=33 then sx8 V0 else V0):=by
   by_cases h32:o=32
   .subst h32
    exact ⟨_,Qe4 M n AA hn wA gH ha,Qab gB _,rfl⟩
   .have wF:wd o=1:=zN (by omega)
    rw [wF] at ha |-;refine ⟨_,Qnn M n AA hn wA gH gB ha,Nat.lt_trans (Qow _ _) (by decide),?_⟩;unfold ldV;rw [zN h32]
  have HS:=Qyx V0 hV.1;obtain ⟨V,VU⟩:∃ V,ldV o M AA=V:=⟨_,rfl⟩;rw [VU] at hV |-;have gN:=QgM x pc c A V hx hc hA;have qW:=QaN (QaC x A V) pc c (w32 ((pc:Int)+4)) (by rw [Qay];exact hx);have qK:=Qao (QaC x A V) (pc) (c) (by rw [Qay];exact hx) hc;have uJ:=Qal (QaC x A V) (pc) (c);have jQ:=Qag (QaC x A V) (pc) (c);have wJ:=Qah qK;have gpC2:=QaA (QaC x A V) (pc) (c) (by rw [Qay];exact hx);have gC:=Qao (QaC x A V) (w32 ((pc:Int)+4)) (c) (by rw [Qay];exact hx) hc;have fO:=Qal (QaC x A V) (w32 ((pc:Int)+4)) (c);have gR:=Qag (QaC x A V) (w32 ((pc:Int)+4)) (c);have fD:=Qah gC;have gpC3:=QaA (QaC x A V) (w32 ((pc:Int)+4)) (c) (by rw [Qay];exact hx);clear VU;generalize wsv M=XM,wsv xs=XX,x.getD A 0=vA,x.getD B 0=vB,w32 m=mm,Qax (QaC x A V) (w32 ((pc:Int)+4)) (c)=C3,Qax (QaC x A V) (pc) (c)=C2,Qax (x) (pc) (c)=CC at *;generalize w32 ((pc:Int)+4)=p4 at *;have e:o=32\/o=33\/o=34:=by omega
  have hV0:=hV.1;rcases e with rfl|rfl|rfl
  all_goals first
   | (
     obtain hq:V=sx8 V0:=hV.2;rw [<- hq] at HS
     clear hq hV)
   | (
     obtain rfl:V=V0:=hV.2
     clear hV)
  all_goals
   refine fnW Tryz.func94 ?_;(repeat' ((conv=>whnf);first|exact zi2|refine zj0 fun hb=>?_|refine QEO ?_|refine QGz ?_|refine QCU ?_|refine zq1 ?_|((with_reducible apply Ge.mk (α:=SV)); . first|exact rB|exact gpC2)|(refine Qg7 hr ?_)|(refine QaD qF ?_)|(refine zpu HS ?_)|(refine zpu gN ?_)|refine zse ?_|refine zbb ?_ ?_))
   all_goals exact Qfe
 .have fK:=QcX x pc c (rsK xs n S R va (wd o) 2) va hx hc gM
  rw [Qbk] at fK;rw [zN hK,zN hK,zN hK];have gC:=Qao (x) (c.getD 1 0) (trL pc c (rsK xs n S R va (wd o) 2) va) hx rfl;have fO:=Qal (x) (c.getD 1 0) (trL pc c (rsK xs n S R va (wd o) 2) va);have gR:=Qag (x) (c.getD 1 0) (trL pc c (rsK xs n S R va (wd o) 2) va);have fD:=Qah gC;have gpC3:=QaA (x) (c.getD 1 0) (trL pc c (rsK xs n S R va (wd o) 2) va) hx;generalize wsv (rsM xs n S R va (wd o) 2)=XM,rsA xs n S R va (wd o) 2=AA,wsv xs=XX,x.getD A 0=vA,x.getD B 0=vB,w32 m=mm,Qax (x) (c.getD 1 0) (trL pc c (rsK xs n S R va (wd o) 2) va)=C3,Qax (x) (pc) (c)=CC at *;generalize rsK xs n S R va (wd o) 2=K at *;have e:o=32\/o=33\/o=34:=by omega
  rcases e with rfl|rfl|rfl
  all_goals
   refine fnW Tryz.func94 ?_;exact QDQ
theorem Qrd (x:List Nat) (pc:Nat) (c:List Nat) (xs:List Nat) (n:Nat) (o:Int) (A B C:Nat) (m:Int) (hx:x.length=16) (hc:c.length=8) (gM:ZL c) (gQ:ZU pc) (hl:xs.length=n) (hY:ZL xs) (hn:ZU n) (jK:ZL x) (hA:A<16) (hB:B<16) (ho:35<=o/\o<=36) :
  FN 94 [.agg (Qax x pc c),.s (.sl 0 0 n),.agg (iv o A B C m)] [⟨true,1,wsv xs⟩]
   (. =⟨.a (.agg (Qax x (trP pc c (rsK xs n (c.getD 0 0) (c.getD 6 0) (vaO x B m) (wd o) 3)) (trC pc c (rsK xs n (c.getD 0 0) (c.getD 6 0) (vaO x B m) (wd o) 3) (vaO x B m)))),[(0,some ⟨true,1,wsv (stX xs n (c.getD 0 0) (c.getD 6 0) (vaO x B m) (x.getD A 0) o)⟩)],[]⟩):=by
 have gV:vaO x B m<4294967296:=QaE _;have VH:True:=trivial;have hr:=QgL x pc c xs n (vaO x B m) (wd o) 3 hx hc gM hl hY hn gV;have rA:=Qav x pc c A hx hA;have rB:=Qav x pc c B hx hB;have xA:=Qab jK A;have qm:IntKind.u32.wrap m=((w32 m:Nat):Int):=Qau m;have q4:IntKind.u32.wrap ((pc:Int)+4)=((w32 ((pc:Int)+4):Nat):Int):=Qau _;have qv:IntKind.u32.wrap (((x.getD B 0:Nat):Int)+((w32 m:Nat):Int))=((vaO x B m:Nat):Int):=Qau _;have gK:=Qaa xs;generalize c.getD 0 0=S,c.getD 6 0=R,vaO x B m=va at *;have gS:=Qao (x) (pc) (c) hx hc;have jG:=Qal (x) (pc) (c);have qL:=Qag (x) (pc) (c);have qR:=Qah gS;have gpCC:=QaA (x) (pc) (c) hx;have JE:=Qaa (rsM xs n S R va (wd o) 3);unfold stX trP trC
 by_cases hK:rsK xs n S R va (wd o) 3=0
 .have hok:=Qhs hK
  obtain ⟨ha,wA⟩:=Qhr hok gV;have gH:(rsM xs n S R va (wd o) 3).length=n:=by rw [Qbh];exact hl
  have gB:=Qc2 xs n S R va (wd o) 3 hY;rw [zP hK,zP hK,zP hK];rw [hK] at hr;generalize rsM xs n S R va (wd o) 3=M,rsA xs n S R va (wd o) 3=AA at *
  have qF:FN 161 [.s (.sl 0 0 n),.s (.u AA),.s (.i (wd o)),.s (.u (x.getD A 0:Nat))] [⟨true,1,wsv M⟩] (. =⟨.tup [],[(0,some ⟨true,1,wsv (stM o M AA (x.getD A 0))⟩)],[]⟩):=by
   by_cases vD:o=35
   .subst vD
    exact QtM M n AA (x.getD A 0) wA gH ha
   .have wF:wd o=1:=zN (by omega)
    rw [wF] at ha |-;unfold stM;rw [zN vD];exact QtL M n AA (x.getD A 0) wA gH ha
  have hss:=Qaa (stM o M AA (x.getD A 0));have qW:=QaN x pc c (w32 ((pc:Int)+4)) hx;have gC:=Qao (x) (w32 ((pc:Int)+4)) (c) hx hc;have fO:=Qal (x) (w32 ((pc:Int)+4)) (c);have gR:=Qag (x) (w32 ((pc:Int)+4)) (c);have fD:=Qah gC;have gpC3:=QaA (x) (w32 ((pc:Int)+4)) (c) hx;generalize wsv (stM o M AA (x.getD A 0))=XS,wsv M=XM,wsv xs=XX at *;generalize x.getD A 0=vA,x.getD B 0=vB,w32 m=mm,Qax (x) (w32 ((pc:Int)+4)) (c)=C3,Qax (x) (pc) (c)=CC at *;generalize w32 ((pc:Int)+4)=p4 at *;have e:o=35\/o=36:=by omega
  rcases e with rfl|rfl
  all_goals
   refine fnW Tryz.func94 ?_;(repeat' ((conv=>whnf);first|exact zi2|refine zj0 fun hb=>?_|refine QEO ?_|refine zq9 ?_|refine QEI ?_|refine zq1 ?_|refine QEM ?_|(refine Qg7 hr ?_)|(refine Qg7 qF ?_)|refine zse ?_|refine zbb ?_ ?_))
   all_goals exact Qfe
 .have fK:=QcX x pc c (rsK xs n S R va (wd o) 3) va hx hc gM
  rw [Qbk] at fK;rw [zN hK,zN hK,zN hK];have gC:=Qao (x) (c.getD 1 0) (trL pc c (rsK xs n S R va (wd o) 3) va) hx rfl;have fO:=Qal (x) (c.getD 1 0) (trL pc c (rsK xs n S R va (wd o) 3) va);have gR:=Qag (x) (c.getD 1 0) (trL pc c (rsK xs n S R va (wd o) 3) va);have fD:=Qah gC;have gpC3:=QaA (x) (c.getD 1 0) (trL pc c (rsK xs n S R va (wd o) 3) va) hx;generalize wsv (rsM xs n S R va (wd o) 3)=XM,rsA xs n S R va (wd o) 3=AA,wsv xs=XX,x.getD A 0=vA,x.getD B 0=vB,w32 m=mm,Qax (x) (c.getD 1 0) (trL pc c (rsK xs n S R va (wd o) 3) va)=C3,Qax (x) (pc) (c)=CC at *;generalize rsK xs n S R va (wd o) 3=K at *;have e:o=35\/o=36:=by omega
  rcases e with rfl|rfl
  all_goals
   refine fnW Tryz.func94 ?_;exact QDQ
def sst (xs:List Nat) (n j:Nat):St :=
 ⟨[(0,.a (.s (.sl 0 0 n))),(1,.a (.s (.sl 1 0 n))),(5,.a (.s (.i j)))],[(0,some ⟨false,1,wsv xs⟩),(1,some ⟨false,1,wsv xs⟩)],[0]⟩
theorem QyF (xs:List Nat) (n:Nat) (hl:xs.length=n) (hn:ZU n):FN 33 [.s (.sl 0 0 n),.s (.sl 1 0 n)] [⟨false,1,wsv xs⟩,⟨false,1,wsv xs⟩] (. =⟨.a (.s (.bool true)),[],[]⟩):=by
 refine fnW Tryz.func33 ?_;(conv=>whnf);(repeat' ((first|exact zi1|refine zj0 fun hb=>?_|refine zs0 ?_|refine zbb ?_ ?_)<;>conv=>whnf))
 .refine Lp.inv (fun m σ=>∃ j:Nat,m+j=n/\σ=sst xs n j) ?_ ?_
  .refine ⟨n,sst xs n 0,?_,0,by omega,rfl⟩
   (exact zwL [(0,some 0),(1,some 1)])
  .rintro m σ ⟨j,hm,rfl⟩
   unfold sst
   have g:(j:Int)<n->(wsv xs)[0+(j:Int).toNat * 1]?=some (.u (xs.getD j 0:Nat)):=fun h=>by
    rw [Nat.zero_add,Nat.mul_one,Int.toNat_natCast];exact QaX xs j (by omega)
   (conv=>whnf);(repeat' ((first|exact zi1|refine zj0 fun hb=>?_|((with_reducible apply Ge.mk (α:=SV)); . exact g (by omega))|refine zs0 ?_|refine zbb ?_ ?_)<;>conv=>whnf))
   .refine ⟨m-1,sst xs n (j+1),by omega,?_,j+1,by omega,rfl⟩
    (exact zwL [(0,some 0),(1,some 1)])
   ·(exact QdQ)
theorem Qt3 (o:Int):FN 91 [.s (.i o)] [] (. =⟨.a (.s (.bool (QgD o))),[],[]⟩):=by
 refine fnW Tryz.func91 ?_;(conv=>whnf);(repeat' ((first|exact zi0|refine zj0 fun hb=>?_|refine zs0 ?_|refine zbb ?_ ?_)<;>conv=>whnf))
 all_goals
  apply Qam
  (focus rfl)
  simp only [Qba];congr 3;simp only [QgD]
  first
   | (refine (zdf ?_).symm;omega)
   | (refine (zdt ?_).symm;omega)
   | (rw [zbi];simp only [zde];omega)
theorem QkY (w:Nat) (hw:ZU w) (h:dOk w=true):FN 88 [.s (.u w)] [] (. =⟨.tup [.agg (iv (dOp w) (dA w) (dB w) (dC w) (dM w)),.s (.bool true)],[],[]⟩):=by
 have:=QqY w hw;rw [h] at this;exact this
theorem QkX (w:Nat) (hw:ZU w) (h:dOk w=false):FN 88 [.s (.u w)] [] (. =⟨.tup [.agg (iv 0 0 0 0 0),.s (.bool false)],[],[]⟩):=by
 have:=QqY w hw;rw [h] at this;exact this
theorem QB4 (x:List Nat) (pc:Nat) (c:List Nat) (xs:List Nat) (n:Nat) (hx:x.length=16) (hc:c.length=8) (gM:ZL c) (gQ:ZU pc) (hl:xs.length=n) (hY:ZL xs) (hn:ZU n) (jK:ZL x) (Q:Ex) (hQ:exS x pc c xs n=Q) :
  FN 55 [.agg (Qax x pc c),.s (.sl 0 0 n)] [⟨true,1,wsv xs⟩]
   (. =⟨.tup [.agg (Qax Q.x Q.pc Q.c),.agg Q.e],[(0,some ⟨true,1,wsv Q.m⟩)],[]⟩):=by
 have hr:=QgL x pc c xs n pc 4 1 hx hc gM hl hY hn gQ;have b1:=Qly (c.getD 0 0) (Qab gM 0);have g0:=Qdf x pc c 0 hx hc (by decide);have yR:=QpX xs n (c.getD 0 0) (c.getD 6 0) pc hY;have hM:=Qc2 xs n (c.getD 0 0) (c.getD 6 0) pc 4 1 hY;have JR:(rsM xs n (c.getD 0 0) (c.getD 6 0) pc 4 1).length=n:=by rw [Qbh];exact hl
 have gK:=Qaa xs;have JE:=Qaa (rsM xs n (c.getD 0 0) (c.getD 6 0) pc 4 1);have gS:=Qao (x) (pc) (c) hx hc;have jG:=Qal (x) (pc) (c);have qL:=Qag (x) (pc) (c);have qR:=Qah gS;have gpCC:=QaA (x) (pc) (c) hx;unfold exS at hQ
 by_cases hK:rsK xs n (c.getD 0 0) (c.getD 6 0) pc 4 1=0
 case neg =>
  rw [zP hK] at hQ;subst hQ;have fK:=QcX x pc c (rsK xs n (c.getD 0 0) (c.getD 6 0) pc 4 1) pc hx hc gM;rw [Qbk] at fK;dsimp only [E0];have gC:=Qao (x) (c.getD 1 0) (trL pc c (rsK xs n (c.getD 0 0) (c.getD 6 0) pc 4 1) (pc)) hx rfl;have fO:=Qal (x) (c.getD 1 0) (trL pc c (rsK xs n (c.getD 0 0) (c.getD 6 0) pc 4 1) (pc));have gR:=Qag (x) (c.getD 1 0) (trL pc c (rsK xs n (c.getD 0 0) (c.getD 6 0) pc 4 1) (pc));have fD:=Qah gC;have gpC3:=QaA (x) (c.getD 1 0) (trL pc c (rsK xs n (c.getD 0 0) (c.getD 6 0) pc 4 1) (pc)) hx;generalize Qax (x) (c.getD 1 0) (trL pc c (rsK xs n (c.getD 0 0) (c.getD 6 0) pc 4 1) (pc))=C3 at *;generalize rsK xs n (c.getD 0 0) (c.getD 6 0) pc 4 1=K,rsA xs n (c.getD 0 0) (c.getD 6 0) pc 4 1=AA,wsv (rsM xs n (c.getD 0 0) (c.getD 6 0) pc 4 1)=XM,wsv xs=XX,Qax (x) (pc) (c)=CC at *;refine fnW Tryz.func55 ?_;(repeat' ((conv=>whnf);first|exact zi2|refine zj0 fun hb=>?_|refine QvS ?_|refine zq4 ?_|refine zq1 ?_|refine QAj ?_|(refine Qg7 hr ?_)|(refine zpu fK ?_)|refine zse ?_|refine zbb ?_ ?_))
  all_goals exact Qfe
 rw [zN (fun h=>h hK)] at hQ;obtain ⟨ha,wA⟩:=Qhr (Qhs hK) gQ;have qF:=Qe4 (rsM xs n (c.getD 0 0) (c.getD 6 0) pc 4 1) n (rsA xs n (c.getD 0 0) (c.getD 6 0) pc 4 1) hn wA JR ha;have hWe:(rsM xs n (c.getD 0 0) (c.getD 6 0) pc 4 1).getD (rsA xs n (c.getD 0 0) (c.getD 6 0) pc 4 1 / 4) 0=ftW xs n (c.getD 0 0) (c.getD 6 0) pc:=by unfold ftW;rw [zP hK]
 rw [hWe] at qF;rw [hK] at hr;generalize hS:c.getD 0 0=S,hR:c.getD 6 0=R at *;generalize hW:ftW xs n S R pc=W,hXM:rsM xs n S R pc 4 1=M,rsA xs n S R pc 4 1=AA at *;clear hK hW hXM hWe ha
 cases hd:dOk W with
 | false =>
  rw [zP hd] at hQ;subst hQ;have jP:=QkX W yR hd;unfold iv at jP;have fK:=QcX x pc c 1 W hx hc gM;rw [Qbk] at fK;dsimp only [E0];have gC:=Qao (x) (c.getD 1 0) (trL pc c (1) (W)) hx rfl;have fO:=Qal (x) (c.getD 1 0) (trL pc c (1) (W));have gR:=Qag (x) (c.getD 1 0) (trL pc c (1) (W));have fD:=Qah gC;have gpC3:=QaA (x) (c.getD 1 0) (trL pc c (1) (W)) hx;generalize Qax (x) (c.getD 1 0) (trL pc c (1) (W))=C3,wsv M=XM,wsv xs=XX,Qax (x) (pc) (c)=CC at *;refine fnW Tryz.func55 ?_;(conv=>whnf);(repeat' ((first|exact zi2|refine zj0 fun hb=>?_|refine QvS ?_|refine zq4 ?_|refine zq1 ?_|refine QAj ?_|(refine Qg7 hr ?_)|(refine QaD qF ?_)|(refine zpu jP ?_)|(refine zpu fK ?_)|refine zse ?_|refine zbb ?_ ?_)<;>conv=>whnf))
  all_goals exact Qfe
 | true =>
 rw [zN (by rw [hd];decide)] at hQ;have jP:=QkY W yR hd;obtain ⟨a1,a2,b1',b2,c1,c2,m1,m2,_⟩:=QhV W hd;rw [a1,b1',c1] at jP;have gI:=Qt3 (dOp W);generalize nA W=A,nB W=B,nC W=C,dM W=m,dOp W=o at *;clear hd a1 b1' c1
 by_cases hpv:57<=o/\S%2=0
 .rw [zP hpv] at hQ
  subst hQ;rw [show QgD o=true from zdt (by omega)] at gI;replace b1:bits .and .u32 (S:Int) 1=0:=b1.trans (by rw [hpv.2];rfl);have fK:=QcX x pc c 2 W hx hc gM;rw [Qbk] at fK;dsimp only [E0];unfold iv at jP;have gC:=Qao (x) (c.getD 1 0) (trL pc c (2) (W)) hx rfl;have fO:=Qal (x) (c.getD 1 0) (trL pc c (2) (W));have gR:=Qag (x) (c.getD 1 0) (trL pc c (2) (W));have fD:=Qah gC;have gpC3:=QaA (x) (c.getD 1 0) (trL pc c (2) (W)) hx;generalize Qax (x) (c.getD 1 0) (trL pc c (2) (W))=C3,wsv M=XM,wsv xs=XX,Qax (x) (pc) (c)=CC at *;refine fnW Tryz.func55 ?_;(repeat' ((conv=>whnf);first|exact zi2|refine zj0 fun hb=>?_|refine QAl ?_|refine QvS ?_|refine zq4 ?_|refine zq1 ?_|((with_reducible apply Ge.mk (α:=SV)); . first|exact g0|exact gpCC)|(refine Qg7 hr ?_)|(refine QaD qF ?_)|(refine zpu jP ?_)|(refine zpu gI ?_)|(refine zpu fK ?_)|refine zse ?_|refine zbb ?_ ?_))
  all_goals exact Qfe
 rw [zN hpv] at hQ;obtain ⟨bp,YA,qZ⟩:∃ bp,QgD o=bp/\(bp=true->S%2=1):=⟨_,rfl,fun h=>by unfold QgD at h;simp only [zde] at h;omega⟩;rw [YA] at gI
 by_cases h32:32<=o/\o<=34
 .rw [zP h32] at hQ
  subst hQ;have jT:=QtZ x pc c M n o A B C m hx hc gM gQ JR hM hn jK a2 b2 h32;rw [hS,hR] at jT;dsimp only [E0];have UI:=Qaa (rsM M n S R (vaO x B m) (wd o) 2);obtain rfl:bp=false:=Qsi;clear qZ hpv;have gC:=Qao (ldX x M n S R (vaO x B m) o A) (trP pc c (rsK M n S R (vaO x B m) (wd o) 2)) (trC pc c (rsK M n S R (vaO x B m) (wd o) 2) (vaO x B m)) (by rw [Qgs];exact hx) (Qfa _ _ _ _ hc);have fO:=Qal (ldX x M n S R (vaO x B m) o A) (trP pc c (rsK M n S R (vaO x B m) (wd o) 2)) (trC pc c (rsK M n S R (vaO x B m) (wd o) 2) (vaO x B m));have gR:=Qag (ldX x M n S R (vaO x B m) o A) (trP pc c (rsK M n S R (vaO x B m) (wd o) 2)) (trC pc c (rsK M n S R (vaO x B m) (wd o) 2) (vaO x B m));have fD:=Qah gC;have gpC3:=QaA (ldX x M n S R (vaO x B m) o A) (trP pc c (rsK M n S R (vaO x B m) (wd o) 2)) (trC pc c (rsK M n S R (vaO x B m) (wd o) 2) (vaO x B m)) (by rw [Qgs];exact hx);generalize Qax (ldX x M n S R (vaO x B m) o A) (trP pc c (rsK M n S R (vaO x B m) (wd o) 2)) (trC pc c (rsK M n S R (vaO x B m) (wd o) 2) (vaO x B m))=C3,wsv (rsM M n S R (vaO x B m) (wd o) 2)=XL,wsv M=XM,wsv xs=XX,Qax (x) (pc) (c)=CC at *;unfold iv at jP jT;refine fnW Tryz.func55 ?_;exact QDN
 rw [zN h32] at hQ
 by_cases vD:35<=o/\o<=36
 .rw [zP vD] at hQ
  subst hQ;have jT:=Qrd x pc c M n o A B C m hx hc gM gQ JR hM hn jK a2 b2 vD;rw [hS,hR] at jT;dsimp only [E0];have UI:=Qaa (stX M n S R (vaO x B m) (x.getD A 0) o);obtain rfl:bp=false:=Qsi;clear qZ hpv;have gC:=Qao (x) (trP pc c (rsK M n S R (vaO x B m) (wd o) 3)) (trC pc c (rsK M n S R (vaO x B m) (wd o) 3) (vaO x B m)) hx (Qfa _ _ _ _ hc);have fO:=Qal (x) (trP pc c (rsK M n S R (vaO x B m) (wd o) 3)) (trC pc c (rsK M n S R (vaO x B m) (wd o) 3) (vaO x B m));have gR:=Qag (x) (trP pc c (rsK M n S R (vaO x B m) (wd o) 3)) (trC pc c (rsK M n S R (vaO x B m) (wd o) 3) (vaO x B m));have fD:=Qah gC;have gpC3:=QaA (x) (trP pc c (rsK M n S R (vaO x B m) (wd o) 3)) (trC pc c (rsK M n S R (vaO x B m) (wd o) 3) (vaO x B m)) hx;generalize Qax (x) (trP pc c (rsK M n S R (vaO x B m) (wd o) 3)) (trC pc c (rsK M n S R (vaO x B m) (wd o) 3) (vaO x B m))=C3,wsv (stX M n S R (vaO x B m) (x.getD A 0) o)=XL,wsv M=XM,wsv xs=XX,Qax (x) (pc) (c)=CC at *;unfold iv at jP jT;refine fnW Tryz.func55 ?_;exact QDN
 rw [zN vD] at hQ;subst hQ;obtain ⟨es,ek,el⟩:=QhX x o A m
 by_cases h56:56<=o
 .have jT:=Qyy x pc c o A B C m hx hc jK gM gQ a2 b2 c2 m2 m1 (by omega)
  have gC:=Qao (exX x pc c o A B C m) (exP x pc c o A B m) (exC x pc c o A m) (by rw [Qd4];exact hx) (QhW x pc c o A m hc);have fO:=Qal (exX x pc c o A B C m) (exP x pc c o A B m) (exC x pc c o A m);have gR:=Qag (exX x pc c o A B C m) (exP x pc c o A B m) (exC x pc c o A m);have fD:=Qah gC;have gpC3:=QaA (exX x pc c o A B C m) (exP x pc c o A B m) (exC x pc c o A m) (by rw [Qd4];exact hx);dsimp only;generalize Qax (exX x pc c o A B C m) (exP x pc c o A B m) (exC x pc c o A m)=C3,wsv M=XM,wsv xs=XX,exE x o A m=EE at *;have VI:∀ c:List SV,c.length=4->QaB c 0 EE=EE:=fun c hc=>Qcb (hc.trans el.symm)
  generalize Qax (x) (pc) (c)=CC at *;unfold iv at jP jT
  cases bp with
  | false =>
   refine fnW Tryz.func55 ?_;(conv=>whnf);(repeat' ((first|exact zi2|refine zj0 fun hb=>?_|refine QHm ?_|refine QEH ?_|refine QEL ?_|refine QAj ?_|(refine Qg7 hr ?_)|(refine QaD qF ?_)|(refine zpu jP ?_)|(refine zpu gI ?_)|(refine zpu jT ?_)|refine zse ?_|refine zbb ?_ ?_)<;>conv=>whnf))
   all_goals exact Qfe
  | true =>
   replace b1:bits .and .u32 (S:Int) 1=1:=b1.trans (by rw [qZ rfl];rfl);refine fnW Tryz.func55 ?_;(repeat' ((conv=>whnf);first|exact zi2|refine zj0 fun hb=>?_|refine QAl ?_|refine QHm ?_|refine QEH ?_|refine QEL ?_|((with_reducible apply Ge.mk (α:=SV)); . first|exact g0|exact gpCC)|(refine Qg7 hr ?_)|(refine QaD qF ?_)|(refine zpu jP ?_)|(refine zpu gI ?_)|(refine zpu jT ?_)|refine zse ?_|refine zbb ?_ ?_))
   all_goals exact Qfe
 obtain rfl:bp=false:=Qsi;have eE:exE x o A m= [.i 0,.i 0,.i 0,.u (0:Nat)]:=Qkc;dsimp only;rw [eE];clear es ek el eE qZ
 by_cases h40:40<=o
 .have jT:=QtY x pc c o A B C m hx hc jK gM gQ a2 b2 c2 m2 m1 (by omega)
  have gC:=Qao (exX x pc c o A B C m) (exP x pc c o A B m) (exC x pc c o A m) (by rw [Qd4];exact hx) (QhW x pc c o A m hc);have fO:=Qal (exX x pc c o A B C m) (exP x pc c o A B m) (exC x pc c o A m);have gR:=Qag (exX x pc c o A B C m) (exP x pc c o A B m) (exC x pc c o A m);have fD:=Qah gC;have gpC3:=QaA (exX x pc c o A B C m) (exP x pc c o A B m) (exC x pc c o A m) (by rw [Qd4];exact hx);generalize Qax (exX x pc c o A B C m) (exP x pc c o A B m) (exC x pc c o A m)=C3,wsv M=XM,wsv xs=XX,Qax (x) (pc) (c)=CC at *;unfold iv at jP jT;refine fnW Tryz.func55 ?_;(repeat' ((conv=>whnf);first|exact zi2|refine zj0 fun hb=>?_|refine QvS ?_|refine zq4 ?_|refine zq1 ?_|refine QAj ?_|(refine Qg7 hr ?_)|(refine QaD qF ?_)|(refine zpu jP ?_)|(refine zpu gI ?_)|(refine zpu jT ?_)|refine zse ?_|refine zbb ?_ ?_))
  all_goals exact Qfe
 have eC:exC x pc c o A m=c:=Qf5;have eP:exP x pc c o A B m=w32 ((pc:Int)+4):=QiB
 obtain ⟨V,hV,hV3,hVi,hVl⟩:∃ V,exX x pc c o A B C m=QaC x A V/\(o<=13->V=Qbr o (x.getD B 0) (x.getD C 0))/\(16<=o/\o<=23->V=Qbr o (x.getD B 0) (w32 m))/\(o=24->V=w32 ((w32 m:Nat)*65536)):=by
  unfold exX
  by_cases h1:1<=o/\o<=13
  .rw [zP h1]
   exact ⟨_,rfl,fun _=>rfl,fun h=>by omega,fun h=>by omega⟩
  .rw [zN h1]
   by_cases h2:16<=o/\o<=23
   .rw [zP h2]
    exact ⟨_,rfl,fun h=>by omega,fun _=>rfl,fun h=>by omega⟩
   .rw [zN h2,zP (by omega)]
    exact ⟨_,rfl,fun h=>by omega,fun h=>by omega,fun _=>rfl⟩
 rw [hV,eC,eP];have gN:=QgM x pc c A V hx hc a2;have rB:=Qav x pc c B hx b2;have rC:=Qav x pc c C hx c2;have xB:=Qab jK B;have xC:=Qab jK C;have lm:=QaE m;have qm:IntKind.u32.wrap m=((w32 m:Nat):Int):=Qau m;have q4:IntKind.u32.wrap ((pc:Int)+4)=((w32 ((pc:Int)+4):Nat):Int):=Qau _;have hal3:=QqV o (x.getD B 0) (x.getD C 0) xB xC;have hali:=QqV o (x.getD B 0) (w32 m) xB lm;rw [<- Qbf o (x.getD B 0) (x.getD C 0) xB xC] at hal3;rw [<- Qbf o (x.getD B 0) (w32 m) xB lm] at hali;have q16:IntKind.u32.wrap (((w32 m:Nat):Int)*2^min (Int.toNat 16) IntKind.u32.bits)=((w32 ((w32 m:Nat)*65536):Nat):Int):=by rw [show (2:Int)^min (Int.toNat 16) IntKind.u32.bits=65536 from rfl,Qau]
 have qW:=QaN (QaC x A V) pc c (w32 ((pc:Int)+4)) (by rw [Qay];exact hx);have qK:=Qao (QaC x A V) (pc) (c) (by rw [Qay];exact hx) hc;have uJ:=Qal (QaC x A V) (pc) (c);have jQ:=Qag (QaC x A V) (pc) (c);have wJ:=Qah qK;have gpC2:=QaA (QaC x A V) (pc) (c) (by rw [Qay];exact hx);have gC:=Qao (QaC x A V) (w32 ((pc:Int)+4)) (c) (by rw [Qay];exact hx) hc;have fO:=Qal (QaC x A V) (w32 ((pc:Int)+4)) (c);have gR:=Qag (QaC x A V) (w32 ((pc:Int)+4)) (c);have fD:=Qah gC;have gpC3:=QaA (QaC x A V) (w32 ((pc:Int)+4)) (c) (by rw [Qay];exact hx);generalize Qax (QaC x A V) (w32 ((pc:Int)+4)) (c)=C3,Qax (QaC x A V) (pc) (c)=C2 at *;clear hV eC eP hpv;generalize w32 ((pc:Int)+4)=p4,QbS o=bb,Qbr o (x.getD B 0) (x.getD C 0)=V3,Qbr o (x.getD B 0) (w32 m)=Vi,w32 ((w32 m:Nat)*65536)=Vl_ at *;generalize w32 m=mm,x.getD B 0=vB,x.getD C 0=vC,wsv M=XM,wsv xs=XX,Qax (x) (pc) (c)=CC at *;unfold iv at jP
 by_cases VJ:o<=13
 .obtain rfl:=hV3 VJ
  refine fnW Tryz.func55 ?_;(repeat' ((conv=>whnf);first|exact zi2|refine zj0 fun hb=>?_|refine Qzp ?_|(apply Sd.mk; . first|exact ⟨gC,gR,rfl,(by show 0+C3.length<=25;omega)⟩|exact ⟨qK,jQ,rfl,(by show 0+C2.length<=CC.length;omega)⟩|(show (0:Int)<=B/\(B:Int)<16;omega)|(show (0:Int)<=C/\(C:Int)<16;omega)|(refine ⟨rfl,rfl,rfl,?_⟩;show 0+16+1<=C2.length;omega))|refine QCU ?_|refine zq1 ?_|((with_reducible apply Ge.mk (α:=SV)); . first|exact rB|exact rC|exact gpCC|exact gpC2)|(refine Qg7 hr ?_)|(refine QaD qF ?_)|(refine zpu jP ?_)|(refine zpu gI ?_)|(refine zpu hal3 ?_)|(refine zpu gN ?_)|refine zse ?_|refine zbb ?_ ?_))
  all_goals exact Qfe
 by_cases jZ:o=24
 .obtain rfl:=hVl jZ
  refine fnW Tryz.func55 ?_;(repeat' ((conv=>whnf);first|exact zi2|refine zj0 fun hb=>?_|(with_reducible first|refine zv qm ?_|refine zv q4 ?_|refine zv q16 ?_)|(apply Sd.mk; . first|exact ⟨gC,gR,rfl,(by show 0+C3.length<=25;omega)⟩|exact ⟨qK,jQ,rfl,(by show 0+C2.length<=CC.length;omega)⟩|(refine ⟨rfl,rfl,rfl,?_⟩;show 0+16+1<=C2.length;omega))|refine QCU ?_|refine zq1 ?_|((with_reducible apply Ge.mk (α:=SV)); . first|exact gpCC|exact gpC2)|(refine Qg7 hr ?_)|(refine QaD qF ?_)|(refine zpu jP ?_)|(refine zpu gI ?_)|(refine zpu gN ?_)|refine zse ?_|refine zbb ?_ ?_))
  all_goals exact Qfe
 .obtain rfl:=hVi (by omega)
  refine fnW Tryz.func55 ?_;(repeat' ((conv=>whnf);first|exact zi2|refine zj0 fun hb=>?_|refine Qzp ?_|refine QGz ?_|refine QCU ?_|refine zq1 ?_|((with_reducible apply Ge.mk (α:=SV)); . first|exact rB|exact gpCC|exact gpC2)|(refine Qg7 hr ?_)|(refine QaD qF ?_)|(refine zpu jP ?_)|(refine zpu gI ?_)|(refine zpu hali ?_)|(refine zpu gN ?_)|refine zse ?_|refine zbb ?_ ?_))
  all_goals exact Qfe
theorem QwV (x:List Nat) (pc:Nat) (c:List Nat) (xs:List Nat) (n:Nat) (hx:x.length=16) (hc:c.length=8):(exS x pc c xs n).x.length=16/\(exS x pc c xs n).c.length=8/\(exS x pc c xs n).m.length=xs.length/\Qaq (exS x pc c xs n).e=true/\Qas (exS x pc c xs n).e=true/\(exS x pc c xs n).e.length=4:=by
 unfold exS;split
 .exact ⟨hx,rfl,Qbh _ _ _ _ _ _ _,rfl,rfl,rfl⟩
 .split
  .exact ⟨hx,rfl,Qbh _ _ _ _ _ _ _,rfl,rfl,rfl⟩
  .split
   .exact ⟨hx,rfl,Qbh _ _ _ _ _ _ _,rfl,rfl,rfl⟩
   .split
    .refine ⟨by dsimp only;rw [Qgs];exact hx,Qfa _ _ _ _ hc,by dsimp only;rw [Qbh,Qbh],rfl,rfl,rfl⟩
    .split
     .refine ⟨hx,Qfa _ _ _ _ hc,?_,rfl,rfl,rfl⟩
      dsimp only;unfold stX;split
      .rw [Qcp,Qbh,Qbh]
      .rw [Qbh,Qbh]
     .exact ⟨by dsimp only;rw [Qd4];exact hx,QhW _ _ _ _ _ _ hc,Qbh _ _ _ _ _ _ _,QhX _ _ _ _⟩
end Go.Proofs.YtflaceijiphfdaaGreat
