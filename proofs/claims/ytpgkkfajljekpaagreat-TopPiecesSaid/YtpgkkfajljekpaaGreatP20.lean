import Derived.Test.YtpgkkfajljekpaaGreatP17
import Derived.Test.YtpgkkfajljekpaaGreatP18
import Derived.Test.YtpgkkfajljekpaaGreatP19
set_option linter.unusedSimpArgs false
set_option linter.unusedVariables false
set_option maxHeartbeats 0
set_option maxRecDepth 100000
namespace Go.Proofs.YtpgkkfajljekpaaGreat
open Go Go.RowKit
theorem QfD (xs:List Nat) (n a:Nat) (hn:n<4294967296) (ha:a<4294967296):FN 174 [.s (.sl 0 0 n),.s (.u a),.s (.i 1)] [⟨false,1,wsv xs⟩] (. =⟨.a (.s (.bool (ld1 n a))),[],[]⟩):=by
 have hm:=QaS n;have hp:=Qcj xs n hn;have gL:=Qaa xs;unfold ld1;generalize mpg n=P,wsv xs=XX at *;refine fnW Tryz.func174 ?_;(repeat' ((conv=>whnf);first|exact zi0|(refine zj0 ?_;intro hb)|(refine Qaz hp ?_)|refine zst ?_|refine zbb ?_ ?_));all_goals (conv=>whnf)
 all_goals
  refine QbQ rfl gL rfl ?_;simp only [Qbc];congr 3;refine Eq.symm ?_
  first
   | (exact zdf (by omega))
   | (rw [zbi,zde,zde];omega)
theorem Qll (xs:List Nat) (n a:Nat) (sz:Int) (fZ:sz=1\/sz=4) (hn:n<4294967296) (ha:a<4294967296):FN 174 [.s (.sl 0 0 n),.s (.u a),.s (.i sz)] [⟨false,1,wsv xs⟩] (. =⟨.a (.s (.bool (acB sz n a))),[],[]⟩):=by
 rcases fZ with rfl|rfl
 .exact QfD xs n a hn ha
 .exact Qc1 xs n a hn ha
theorem Qfd (xs:List Nat) (n a:Nat) (hn:n<4294967296) (ha:a<4294967296) (hl:xs.length=n) (qZ:ld4 n a=true):FN 110 [.s (.sl 0 0 n),.s (.u a),.s (.i 4)] [⟨false,1,wsv xs⟩] (. =⟨.tup [.s (.u (xs.getD (a / 4) 0:Nat)),.s (.bool true)],[],[]⟩):=by
 have hw:=Qc1 xs n a hn ha;rw [qZ] at hw;have zE:=Qeo qZ;have hg:=QaY xs (a / 4) (by omega);refine fnW Tryz.func110 ?_;(repeat' ((conv=>whnf);first|exact zi0|(refine zj0 ?_;intro hb)|(refine Qag (f:=174) hw [⟨0,0⟩] [(0,⟨false,1,wsv xs⟩)] rfl ⟨rfl,trivial⟩ ⟨rfl,Qas (Qaa _),trivial⟩ ⟨rfl,Qbn⟩ ?_)|refine Qex ?_|refine QsL ?_|refine QAI ?_|refine zs0 ?_|refine zbb ?_ ?_));all_goals (conv=>whnf)
 all_goals first|exact QbQ rfl (Qaa _) rfl rfl
theorem QHE (w a:Nat) (hw:w<4294967296):bits .and .u32 ((w:Int) / 2^min (((a%4*8:Nat):Int)).toNat IntKind.u32.bits) 255=((byN w a:Nat):Int):=QeJ w (a%4*8) 8 hw (by omega) (by omega)
theorem at8 (a:Nat):IntKind.u32.wrap (8*((a%4:Nat):Int))=((a%4*8:Nat):Int):=by rw [Qe4 (by omega) (by omega)];omega
theorem QJg (w:Int) (l:Nat):w / 2^min ((l:Nat):Int).toNat IntKind.u32.bits=w / 2^min ((l:Nat):Int).toNat IntKind.u32.bits:=rfl
theorem QnC (xs:List Nat) (n a:Nat) (hn:n<4294967296) (ha:a<4294967296) (hl:xs.length=n) (hx:ZL xs) (qZ:ld1 n a=true):FN 110 [.s (.sl 0 0 n),.s (.u a),.s (.i 1)] [⟨false,1,wsv xs⟩] (. =⟨.tup [.s (.u (byN (xs.getD (a / 4) 0) a:Nat)),.s (.bool true)],[],[]⟩):=by
 have hw:=QfD xs n a hn ha;rw [qZ] at hw;have zE:=Qif qZ;have hg:=QaY xs (a / 4) (by omega);have wP:=QHE (xs.getD (a / 4) 0) a (QDd hx _);have h8:=at8 a;have JM:=QFq a;generalize xs.getD (a / 4) 0=W at *;have hsk:=QJg (W:Int) (a%4*8);generalize byN W a=B,a%4*8=Q at *;generalize a%4=R4 at *;refine fnW Tryz.func110 ?_;(repeat' ((conv=>whnf);first|exact zi0|(refine zj0 ?_;intro hb)|(refine Qag (f:=174) hw [⟨0,0⟩] [(0,⟨false,1,wsv xs⟩)] rfl ⟨rfl,trivial⟩ ⟨rfl,Qas (Qaa _),trivial⟩ ⟨rfl,Qbn⟩ ?_)|refine Qex ?_|refine QsL ?_|refine QAI ?_|(with_reducible first|refine zv JM ?_|refine zv h8 ?_|refine zv hsk ?_|refine zv wP ?_)|refine zs0 ?_|refine zbb ?_ ?_));all_goals (conv=>whnf)
 all_goals first|exact QbQ rfl (Qaa _) rfl rfl
theorem Qt8 (xs:List Nat) (n a v:Nat) (ha:a<4294967296) (hl:xs.length=n) (qZ:ld4 n a=true):FN 227 [.s (.sl 0 0 n),.s (.u a),.s (.i 4),.s (.u v)] [⟨true,1,wsv xs⟩] (. =⟨.tup [],[(0,some ⟨true,1,wsv (xs.set (a / 4) v)⟩)],[]⟩):=by
 have zE:=Qeo qZ;have gZ:=Qbx xs (a / 4) v (by omega);have uW:(wsv xs).length=n:=by simp [hl]
 have VJ:Qad (wsv (xs.set (a / 4) v))=true:=Qaa _;generalize wsv (xs.set (a / 4) v)=X2,wsv xs=M at *;refine fnW Tryz.func227 ?_;(repeat' ((conv=>whnf);first|exact zi0|(refine zj0 ?_;intro hb)|refine Qex ?_|(apply Sd.mk; . refine ⟨rfl,rfl,rfl,?_⟩;show _<=M.length;simp;omega)|refine QsL ?_|refine zq7 ?_|refine zs0 ?_|refine zbb ?_ ?_))
 all_goals exact Qb5
theorem Qt7 (xs:List Nat) (n a v:Nat) (ha:a<4294967296) (hl:xs.length=n) (qZ:ld1 n a=true):FN 227 [.s (.sl 0 0 n),.s (.u a),.s (.i 1),.s (.u v)] [⟨true,1,wsv xs⟩] (. =⟨.tup [],[(0,some ⟨true,1,wsv (Qns xs a v)⟩)],[]⟩):=by
 have zE:=Qif qZ;have hg:=QaY xs (a / 4) (by omega);have gZ:=Qbx xs (a / 4) (sfN (xs.getD (a / 4) 0) (a%4*8) v) (by omega);change QaC _ _ _=wsv (Qns xs a v) at gZ;have FQ:=(Qgc (xs.getD (a / 4) 0) (a%4*8) v).symm;unfold sfI at FQ;have e1:IntKind.u32.wrap (255*2^min ((a%4*8:Nat):Int).toNat IntKind.u32.bits)=IntKind.u32.wrap (255*2^min ((a%4*8:Nat):Int).toNat IntKind.u32.bits):=rfl;have e2:IntKind.u32.wrap (bits .and .u32 (v:Int) 255*2^min ((a%4*8:Nat):Int).toNat IntKind.u32.bits)=IntKind.u32.wrap (bits .and .u32 (v:Int) 255*2^min ((a%4*8:Nat):Int).toNat IntKind.u32.bits):=rfl;have uW:(wsv xs).length=n:=by simp [hl]
 have VJ:Qad (wsv (Qns xs a v))=true:=Qaa _;have h8:=at8 a;have JM:=QFq a;generalize sfN (xs.getD (a / 4) 0) (a%4*8) v=V,wsv (Qns xs a v)=X2 at *;generalize xs.getD (a / 4) 0=W,wsv xs=M,a%4*8=Q at *;refine fnW Tryz.func227 ?_;(repeat' ((conv=>whnf);first|exact zi0|(refine zj0 ?_;intro hb)|refine Qex ?_|(apply Sd.mk; . refine ⟨rfl,rfl,rfl,?_⟩;show _<=M.length;simp;omega)|refine QsL ?_|refine QAI ?_|(with_reducible first|refine zv JM ?_|refine zv h8 ?_|refine zv e1 ?_|refine zv e2 ?_|refine zv FQ ?_)|refine zq7 ?_|refine zs0 ?_|refine zbb ?_ ?_))
 all_goals exact Qb5
theorem QjS (o:Int) (a b:Nat) (ha:a<4294967296) (fV:b<4294967296):FN 226 [.s (.i o),.s (.u a),.s (.u b)] [] (. =⟨.a (.s (.bool (Qdf o a b))),[],[]⟩):=by
 refine fnW Tryz.func226 ?_;exact QIx
theorem QI5 (x:Nat) (hx:x<4294967296):bits .and .u32 (x:Int) (256-1)=((x%256:Nat):Int):=Qbi x 8 hx (by omega)
theorem QI6 (x:Nat) (hx:x<256):(x:Int) / 2^min ((8:Int)-1).toNat IntKind.u32.bits=((x / 128:Nat):Int):=by
 rw [show (2:Int)^min ((8:Int)-1).toNat IntKind.u32.bits=128 from rfl];omega
theorem QI7 (x:Nat) (hx:x<256):bits .or .u32 (x:Int) 4294967040=((x+4294967040:Nat):Int):=by
 have:=QvX x 4294967040 (by omega) (by omega)
 have e:x ||| 4294967040=x+4294967040:=by
  rw [Nat.or_comm,show 4294967040=2^8*16777215 from rfl,<- Nat.two_pow_add_eq_or_of_lt (i:=8) (show x<2^8 by omega)];omega
 rw [e] at this;exact this
theorem Qy1 (x:Nat) (hx:x<4294967296):FN 228 [.s (.u x),.s (.i 8)] [] (. =⟨.a (.s (.u (sx8 x:Nat))),[],[]⟩):=by
 have r1:=QI5 x hx;have r2:=QI6 (x%256) (by omega);have r3:=QI7 (x%256) (by omega);have m1:IntKind.u32.wrap (1*2^min (Int.toNat 8) IntKind.u32.bits)=256:=rfl;have m2:IntKind.u32.wrap (4294967295*2^min (Int.toNat 8) IntKind.u32.bits)=4294967040:=rfl;refine fnW Tryz.func228 ?_;(repeat' ((conv=>whnf);first|exact zi0|(refine zj0 ?_;intro hb)|(with_reducible first|refine zv r1 ?_|refine zv r2 ?_|refine zv r3 ?_|refine zv m1 ?_|refine zv m2 ?_)|refine zs0 ?_|refine zbb ?_ ?_));all_goals (conv=>whnf)
 all_goals
  refine Qan rfl ?_;simp only [Qbc,sx8]
  first
   | (rw [zP (by omega)];done)
   | (rw [zN (by omega)];done)
theorem QgW (x:List Nat) (pc:Nat) (c:List Nat) (r v:Nat) (hx:x.length=16) (hc:c.length=8) (hr:r<16):FN 85 [.agg (Qax x pc c),.s (.i r),.s (.u v)] [] (. =⟨.a (.agg (Qax (QaD x r v) pc c)),[],[]⟩):=by
 have hw:=Qh3 x pc c r v hx hr;have gS:=Qaq (x) (pc) (c) hx hc;have jM:=Qam (x) (pc) (c);have qU:=Qai (x) (pc) (c);have qY:=Qaj gS;have gpCC:=QaB (x) (pc) (c) hx;have qR:=Qaq (x.set r v) (pc) (c) (by simpa using hx) hc;have HG:=Qam (x.set r v) (pc) (c);have jS:=Qai (x.set r v) (pc) (c);have wW:=Qaj qR;have gpC2:=QaB (x.set r v) (pc) (c) (by simpa using hx);unfold QaD
 by_cases h:r=0
 .rw [zP h]
  subst h;generalize Qax (x) (pc) (c)=CC at *;refine fnW Tryz.func85 ?_;(repeat' ((conv=>whnf);first|exact zi2|(refine zj0 ?_;intro hb)|(apply Sd.mk; . exact ⟨gS,qU,rfl,(by show 0+CC.length<=25;omega)⟩)|((with_reducible apply Vl.mk (α:=List SV)); . first|exact qY _ (by first|rfl|assumption))|(apply Sg.mk; . first|exact Qa6 CC gS)|refine zse ?_|refine zbb ?_ ?_))
  all_goals exact zF_
 .rw [zN h]
  generalize Qax (x.set r v) (pc) (c)=C2,Qax (x) (pc) (c)=CC at *;refine fnW Tryz.func85 ?_;(repeat' ((conv=>whnf);first|exact zi2|(refine zj0 ?_;intro hb)|(apply Sd.mk; . first|exact ⟨qR,jS,rfl,(by show 0+C2.length<=25;omega)⟩|(show (0:Int)<=r/\(r:Int)<16;omega)|(refine ⟨rfl,rfl,rfl,?_⟩;show r+1<=CC.length;omega))|((with_reducible apply Vl.mk (α:=List SV)); . first|exact hw|exact wW _ (by first|rfl|assumption))|(apply Sg.mk; . exact Qa6 C2 qR)|refine zse ?_|refine zbb ?_ ?_))
  all_goals exact zF_
theorem QAS (a:Nat) (ha:a<4294967296):bits .and .u32 (a:Int) 5=((a%2+a / 4%2*4:Nat):Int):=by
 rw [show ((5:Int))=((5:Nat):Int) from rfl,QcB a 5 ha (by omega)];obtain ⟨h,l,hl,rfl⟩:=QhL a;rw [QgF h l 5 hl (by decide)];have e:∀ l:Nat,l<32->l &&& 5=l%2+l / 4%2*4:=by decide
 rw [e l hl];congr 1;omega
theorem Qrs (x:List Nat) (pc:Nat) (c:List Nat) (hx:x.length=16) (hc:c.length=8) (hs:c.getD 0 0<4294967296):FN 220 [.agg (Qax x pc c)] [] (. =⟨.a (.s (.bool (Qdb (c.getD 0 0)))),[],[]⟩):=by
 have g0:=Qdn x pc c 0 hx hc (by decide);have b5:=QAS (c.getD 0 0) hs;have gS:=Qaq (x) (pc) (c) hx hc;have jM:=Qam (x) (pc) (c);have qU:=Qai (x) (pc) (c);have qY:=Qaj gS;have gpCC:=QaB (x) (pc) (c) hx;generalize c.getD 0 0=S,Qax (x) (pc) (c)=CC at *
 obtain ⟨T,hT,hP⟩:∃ T:Nat,S%2+S / 4%2*4=T/\(((T:Nat):Int)==4)=Qdb S:=by
  refine ⟨_,rfl,?_⟩;unfold Qdb;rw [zbi,beq_iff_eq,zde];omega
 rw [hT] at b5;rw [<- hP];refine fnW Tryz.func220 ?_;(repeat' ((conv=>whnf);first|exact zi0|(refine zj0 ?_;intro hb)|(with_reducible refine zv b5 ?_)|refine QmU ?_|refine zst ?_|refine zbb ?_ ?_))
 all_goals exact zf_
theorem QgV (x:List Nat) (pc:Nat) (c:List Nat) (xs:List Nat) (n va:Nat) (sz ac:Int) (hx:x.length=16) (hc:c.length=8) (gK:ZL c) (hl:xs.length=n) (hY:ZL xs) (hn:n<4294967296) (gX:va<4294967296) :
  FN 147 [.agg (Qax x pc c),.s (.sl 0 0 n),.s (.u va),.s (.i sz),.s (.i ac)] [⟨true,1,wsv xs⟩]
   (. =⟨.tup [.s (.u (rsA xs n (c.getD 0 0) (c.getD 6 0) va sz ac:Nat)),.s (.i (rsK xs n (c.getD 0 0) (c.getD 6 0) va sz ac))],[(0,some ⟨true,1,wsv (rsM xs n (c.getD 0 0) (c.getD 6 0) va sz ac)⟩)],[]⟩):=by
 have hs:=Qab gK 0;have hr:=Qab gK 6;have hk:=Qrs x pc c hx hc hs;have g0:=Qdn x pc c 0 hx hc (by decide);have g6:=Qdn x pc c 6 hx hc (by decide);have UQ:=Qaq x pc c hx hc;have hCs:=Qam x pc c;have hCk:=Qai x pc c;have zM:=QjK ac;have vL:=QjP ac;have hz0:=Qaj UQ;generalize c.getD 0 0=S,c.getD 6 0=R,Qax x pc c=C at *;have hw:=QrE xs n R va ac hl hn hY hr gX;have gL:=Qaa xs;clear gK hx hc
 by_cases wY:QdM ac=true/\szB sz=true
 case neg =>
  have e1:rsO xs n S R va sz ac=false:=by
   unfold rsO
   cases h:QdM ac with
   | false=>rfl
   | true =>
    cases h2:szB sz with
    | false=>rfl
    | true=>exact absurd ⟨h,h2⟩ wY
  have e2:QdM ac=false\/szB sz=false:=by
   cases h:QdM ac with
   | false=>exact .inl rfl
   | true =>
    cases h2:szB sz with
    | false=>exact .inr rfl
    | true=>exact absurd ⟨h,h2⟩ wY
  rw [show rsA xs n S R va sz ac=0 by unfold rsA;rw [e1];rfl,show rsM xs n S R va sz ac=xs by unfold rsM;rw [e1];exact zN (fun h=>by cases h.1),show rsK xs n S R va sz ac=5 by unfold rsK;rw [e1,zN (by decide),zP e2]];have hz:szB sz=false->sz≠1/\sz≠4:=fun h=>by unfold szB at h;simpa using h
  generalize QdM ac=kb,wsv xs=XX at *
  cases kb with
  | false =>
   clear hw hz;refine fnW Tryz.func147 ?_;(repeat' ((conv=>whnf);first|exact zi2|(refine zj0 ?_;intro hb)|(refine zpu vL ?_)|refine zse ?_|refine zbb ?_ ?_));all_goals (conv=>whnf)
   all_goals first|(exact Qb5)
  | true =>
   obtain ⟨_,_⟩:=hz (by rcases e2 with h|h;cases h;exact h);clear hw;refine fnW Tryz.func147 ?_;(repeat' ((conv=>whnf);first|exact zi2|(refine zj0 ?_;intro hb)|(refine zpu vL ?_)|refine zse ?_|refine zbb ?_ ?_))
   all_goals exact Qeu
 obtain ⟨k1,k2⟩:=wY;rw [k1] at vL;have fZ:sz=1\/sz=4:=by unfold szB at k2;simpa using k2
 by_cases gW:(va:Int)%sz=0
 case neg =>
  have e1:rsO xs n S R va sz ac=false:=by unfold rsO;rw [zdf gW,Bool.and_false];rfl
  rw [show rsA xs n S R va sz ac=0 by unfold rsA;rw [e1];rfl,show rsM xs n S R va sz ac=xs by unfold rsM;rw [e1];exact zN (fun h=>by cases h.1),show rsK xs n S R va sz ac=3 by unfold rsK;rw [e1,zN (by decide),zN (by rw [k1,k2];simp),zN gW]];obtain rfl:sz=4:=by rcases fZ with rfl|rfl;omega;rfl
  have m1:Int.tmod (va:Int) 4=((va%4:Nat):Int):=Qu8;have m2:va%4≠0:=by omega
  generalize va%4=va4,wsv xs=XX at *;clear hw;refine fnW Tryz.func147 ?_;(repeat' ((conv=>whnf);first|exact zi2|(refine zj0 ?_;intro hb)|(with_reducible refine zv m1 ?_)|(refine zpu vL ?_)|refine zse ?_|refine zbb ?_ ?_))
  all_goals exact Qeu
 have qK:=Qll xs n va sz fZ hn gX;have m0:Int.tmod (va:Int) sz=0:=by rw [Int.tmod_eq_emod_of_nonneg (by omega)];exact gW
 cases qC:Qdb S with
 | true =>
  obtain ⟨_,_⟩:S%2=0/\S / 4%2=1:=by unfold Qdb at qC;simpa using qC
  rw [qC] at hk
  cases hok:Qbm xs n R va ac with
  | false =>
   have e1:rsO xs n S R va sz ac=false:=by unfold rsO;rw [qC,hok];simp
   rw [show rsA xs n S R va sz ac=0 by unfold rsA;rw [e1];rfl,show rsM xs n S R va sz ac=xs by unfold rsM;rw [e1];exact zN (fun h=>by cases h.1),show rsK xs n S R va sz ac=Qct ac by unfold rsK;rw [e1,zN (by decide),zN (by rw [k1,k2];simp),zP gW]];unfold QfH at hw;rw [hok,zN (by decide)] at hw;have YR:Qct ac≠0:=by unfold Qct;split;omega;split<;>omega
   generalize Qct ac=cz,wsv xs=XX at *;rcases fZ with rfl|rfl
   all_goals
    refine fnW Tryz.func147 ?_;(repeat' ((conv=>whnf);first|exact zi2|(refine zj0 ?_;intro hb)|(with_reducible refine zv m0 ?_)|((with_reducible apply Ge.mk (α:=SV)); . exact g6)|refine QAK ?_|(refine zpu hk ?_)|(refine Qaz hw ?_)|(refine zpu vL ?_)|refine zse ?_|refine zbb ?_ ?_));all_goals (conv=>whnf)
    all_goals first|(exact Qb5)
  | true =>
   have e1:rsO xs n S R va sz ac=true:=by unfold rsO;rw [qC,hok,k1,k2,zdt gW];rfl
   obtain ⟨l1,l2,_⟩:=Qwe hok hn;have htc:=QtV xs n (Qa8 R va) ac hl hn hY l2 l1;rw [show rsA xs n S R va sz ac=frW (QaQ xs R va)*128+va%128 by unfold rsA;rw [e1,zP rfl,qC,zP rfl],show rsM xs n S R va sz ac=xs.set (Qa8 R va / 4) (QbI (xs.getD (Qa8 R va / 4) 0) ac) by unfold rsM;rw [e1,qC];exact zP ⟨rfl,rfl⟩,show rsK xs n S R va sz ac=0 by unfold rsK;rw [e1,zP rfl]];unfold QfH at hw;rw [hok,zP rfl] at hw;have gY:=Qaa (xs.set (Qa8 R va / 4) (QbI (xs.getD (Qa8 R va / 4) 0) ac));generalize wsv (xs.set (Qa8 R va / 4) (QbI (xs.getD (Qa8 R va / 4) 0) ac))=X2 at *;generalize Qa8 R va=E,frW (QaQ xs R va)*128+va%128=AA,Qct ac=cz,wsv xs=XX at *;rcases fZ with rfl|rfl
   all_goals
    refine fnW Tryz.func147 ?_;(repeat' ((conv=>whnf);first|exact zi2|(refine zj0 ?_;intro hb)|(with_reducible refine zv m0 ?_)|((with_reducible apply Ge.mk (α:=SV)); . exact g6)|refine QAK ?_|(refine zpu hk ?_)|(refine Qaz hw ?_)|(refine zpu vL ?_)|(refine Qhk htc ?_)|refine zse ?_|refine zbb ?_ ?_));all_goals (conv=>whnf)
    all_goals first|(exact Qb5)
 | false =>
  have WR:S%2=1\/(S%2=0/\S / 4%2=0):=by unfold Qdb at qC;simp at qC;omega
  have eM:rsM xs n S R va sz ac=xs:=by unfold rsM;rw [qC];exact zN (fun h=>by cases h.2)
  have eO:rsO xs n S R va sz ac=acB sz n va:=by unfold rsO;rw [qC,k1,k2,zdt gW];simp
  have eA:rsA xs n S R va sz ac=if acB sz n va=true then va else 0:=by unfold rsA;rw [eO,qC];simp
  have eK:rsK xs n S R va sz ac=if acB sz n va=true then 0 else Qct ac:=QHz
  rw [eM,eA,eK];clear eM eO eA eK hw;generalize Qct ac=cz,acB sz n va=ok,wsv xs=XX at *;rw [qC] at hk;cases ok<;>rcases fZ with rfl|rfl
  all_goals
   refine fnW Tryz.func147 ?_;(repeat' ((conv=>whnf);first|exact zi2|(refine zj0 ?_;intro hb)|(with_reducible refine zv m0 ?_)|refine QAK ?_|(refine zpu zM ?_)|(refine zpu hk ?_)|(refine Qaz qK ?_)|(refine zpu vL ?_)|refine zse ?_|refine zbb ?_ ?_))
   all_goals exact Qeu
theorem QnB (x:List Nat) (pc:Nat) (c:List Nat) (o:Int) (A B C:Nat) (m:Int) (hx:x.length=16) (hc:c.length=8) (hY:ZL x) (gA:ZL c) (gQ:pc<4294967296) (hA:A<16) (hB:B<16) (hC:C<16) (hm:o=58->0<=m/\m<8) (gB: -32768<=m/\m<=65535) (ho:(40<=o/\o<=45)/\Qdf o (x.getD A 0) (x.getD B 0)=true) :
  FN 150 [.agg (Qax x pc c),.agg (iv o A B C m)] [] (. =⟨.a (.agg (Qax (exX x pc c o A B C m) (exP x pc c o A B m) (exC x pc c o A m))),[],[]⟩):=by
 have eX:exX x pc c o A B C m=x:=QcK;have eP:exP x pc c o A B m=w32 ((pc:Int)+w32 (4*(w32 m:Nat))):=Qvb;have eC:exC x pc c o A m=c:=Qcg;rw [eX,eP,eC];have rA:=Qav x pc c A hx hA;have rB:=Qav x pc c B hx hB;have rC:=Qav x pc c C hx hC;have qm:IntKind.u32.wrap m=((w32 m:Nat):Int):=Qau m;have q4:IntKind.u32.wrap ((pc:Int)+4)=((w32 ((pc:Int)+4):Nat):Int):=Qau _;have q4m:IntKind.u32.wrap (4*((w32 m:Nat):Int))=((w32 (4*(w32 m:Nat)):Nat):Int):=Qau _;have xA:=Qab hY A;have xB:=Qab hY B;have lm:=QaF m;have gS:=Qaq (x) (pc) (c) hx hc;have jM:=Qam (x) (pc) (c);have qU:=Qai (x) (pc) (c);have qY:=Qaj gS;have gpCC:=QaB (x) (pc) (c) hx;obtain ⟨PP,qX⟩:∃ PP,w32 ((pc:Int)+w32 (4*(w32 m:Nat)))=PP:=⟨_,rfl⟩;rw [qX];have qT:IntKind.u32.wrap ((pc:Int)+((w32 (4*(w32 m:Nat)):Nat):Int))=(PP:Int):=by rw [Qau,qX]
 have jW:=QjS o (x.getD A 0) (x.getD B 0) xA xB;rw [ho.2] at jW;replace ho:=ho.1;have jC:=QaN x pc c PP hx;have gC:=Qaq (x) (PP) (c) hx hc;have fW:=Qam (x) (PP) (c);have gR:=Qai (x) (PP) (c);have fE:=Qaj gC;have gpC3:=QaB (x) (PP) (c) hx;generalize Qax (x) (PP) (c)=C3 at *;clear eX eP eC;generalize x.getD A 0=vA,x.getD B 0=vB,x.getD C 0=vC,Qax (x) (pc) (c)=CC,w32 (4*((w32 m:Nat):Int))=m4 at *;generalize w32 m=mm,w32 ((pc:Int)+4)=p4 at *;refine fnW Tryz.func150 ?_;(repeat' ((conv=>whnf);first|exact zi2|(refine zj0 ?_;intro hb)|refine QE8 ?_|refine zq9 ?_|refine QzN ?_|(apply Sg.mk; . exact Qa6 C3 gC)|refine QFa ?_|(refine zpu jW ?_)|refine zse ?_|refine zbb ?_ ?_))
 all_goals exact zF_
theorem Qlg (x:List Nat) (pc:Nat) (c:List Nat) (o:Int) (A B C:Nat) (m:Int) (hx:x.length=16) (hc:c.length=8) (hY:ZL x) (gA:ZL c) (gQ:pc<4294967296) (hA:A<16) (hB:B<16) (hC:C<16) (hm:o=58->0<=m/\m<8) (gB: -32768<=m/\m<=65535) (ho:(40<=o/\o<=45)/\Qdf o (x.getD A 0) (x.getD B 0)=false) :
  FN 150 [.agg (Qax x pc c),.agg (iv o A B C m)] [] (. =⟨.a (.agg (Qax (exX x pc c o A B C m) (exP x pc c o A B m) (exC x pc c o A m))),[],[]⟩):=by
 have eX:exX x pc c o A B C m=x:=QcK;have eP:exP x pc c o A B m=w32 ((pc:Int)+4):=Qvb;have eC:exC x pc c o A m=c:=Qcg;rw [eX,eP,eC];have rA:=Qav x pc c A hx hA;have rB:=Qav x pc c B hx hB;have rC:=Qav x pc c C hx hC;have qm:IntKind.u32.wrap m=((w32 m:Nat):Int):=Qau m;have q4:IntKind.u32.wrap ((pc:Int)+4)=((w32 ((pc:Int)+4):Nat):Int):=Qau _;have q4m:IntKind.u32.wrap (4*((w32 m:Nat):Int))=((w32 (4*(w32 m:Nat)):Nat):Int):=Qau _;have xA:=Qab hY A;have xB:=Qab hY B;have lm:=QaF m;have gS:=Qaq (x) (pc) (c) hx hc;have jM:=Qam (x) (pc) (c);have qU:=Qai (x) (pc) (c);have qY:=Qaj gS;have gpCC:=QaB (x) (pc) (c) hx;obtain ⟨PP,qX⟩:∃ PP,w32 ((pc:Int)+4)=PP:=⟨_,rfl⟩;rw [qX];rw [qX] at q4;have jW:=QjS o (x.getD A 0) (x.getD B 0) xA xB;rw [ho.2] at jW;replace ho:=ho.1;have jC:=QaN x pc c PP hx;have gC:=Qaq (x) (PP) (c) hx hc;have fW:=Qam (x) (PP) (c);have gR:=Qai (x) (PP) (c);have fE:=Qaj gC;have gpC3:=QaB (x) (PP) (c) hx;generalize Qax (x) (PP) (c)=C3 at *;clear eX eP eC;generalize x.getD A 0=vA,x.getD B 0=vB,x.getD C 0=vC,Qax (x) (pc) (c)=CC,w32 (4*((w32 m:Nat):Int))=m4 at *;generalize w32 m=mm,w32 ((pc:Int)+4)=p4 at *;refine fnW Tryz.func150 ?_;(repeat' ((conv=>whnf);first|exact zi2|(refine zj0 ?_;intro hb)|(with_reducible refine zv q4 ?_)|refine zq9 ?_|refine QzN ?_|(apply Sg.mk; . exact Qa6 C3 gC)|refine QFa ?_|(refine zpu jW ?_)|refine zse ?_|refine zbb ?_ ?_))
 all_goals exact zF_
theorem QCz (x:List Nat) (pc:Nat) (c:List Nat) (o:Int) (A B C:Nat) (m:Int) (hx:x.length=16) (hc:c.length=8) (hY:ZL x) (gA:ZL c) (gQ:pc<4294967296) (hA:A<16) (hB:B<16) (hC:C<16) (hm:o=58->0<=m/\m<8) (gB: -32768<=m/\m<=65535) (ho:o=48) :
  FN 150 [.agg (Qax x pc c),.agg (iv o A B C m)] [] (. =⟨.a (.agg (Qax (exX x pc c o A B C m) (exP x pc c o A B m) (exC x pc c o A m))),[],[]⟩):=by
 have eX:exX x pc c o A B C m=QaD x A (w32 ((pc:Int)+4)):=Qn8;have eP:exP x pc c o A B m=w32 ((pc:Int)+w32 (4*(w32 m:Nat))):=by unfold exP;rw [zN (by omega),zP (by omega)]
 have eC:exC x pc c o A m=c:=Qcg;rw [eX,eP,eC];have rA:=Qav x pc c A hx hA;have rB:=Qav x pc c B hx hB;have rC:=Qav x pc c C hx hC;have qm:IntKind.u32.wrap m=((w32 m:Nat):Int):=Qau m;have q4:IntKind.u32.wrap ((pc:Int)+4)=((w32 ((pc:Int)+4):Nat):Int):=Qau _;have q4m:IntKind.u32.wrap (4*((w32 m:Nat):Int))=((w32 (4*(w32 m:Nat)):Nat):Int):=Qau _;have xA:=Qab hY A;have xB:=Qab hY B;have lm:=QaF m;have gS:=Qaq (x) (pc) (c) hx hc;have jM:=Qam (x) (pc) (c);have qU:=Qai (x) (pc) (c);have qY:=Qaj gS;have gpCC:=QaB (x) (pc) (c) hx;obtain ⟨V,hV⟩:∃ V,w32 ((pc:Int)+4)=V:=⟨_,rfl⟩;obtain ⟨PP,qX⟩:∃ PP,w32 ((pc:Int)+w32 (4*(w32 m:Nat)))=PP:=⟨_,rfl⟩;rw [hV,qX];rw [hV] at q4;have qT:IntKind.u32.wrap ((pc:Int)+((w32 (4*(w32 m:Nat)):Nat):Int))=(PP:Int):=by rw [Qau,qX]
 exact QHp
theorem QyI (x:List Nat) (pc:Nat) (c:List Nat) (o:Int) (A B C:Nat) (m:Int) (hx:x.length=16) (hc:c.length=8) (hY:ZL x) (gA:ZL c) (gQ:pc<4294967296) (hA:A<16) (hB:B<16) (hC:C<16) (hm:o=58->0<=m/\m<8) (gB: -32768<=m/\m<=65535) (ho:o=49) :
  FN 150 [.agg (Qax x pc c),.agg (iv o A B C m)] [] (. =⟨.a (.agg (Qax (exX x pc c o A B C m) (exP x pc c o A B m) (exC x pc c o A m))),[],[]⟩):=by
 have eX:exX x pc c o A B C m=QaD x A (w32 ((pc:Int)+4)):=Qn8;have eP:exP x pc c o A B m=w32 ((x.getD B 0:Nat)+(w32 m:Nat)):=by unfold exP;rw [zN (by omega),zN (by omega),zP (by omega)]
 have eC:exC x pc c o A m=c:=Qcg;rw [eX,eP,eC];have rA:=Qav x pc c A hx hA;have rB:=Qav x pc c B hx hB;have rC:=Qav x pc c C hx hC;have qm:IntKind.u32.wrap m=((w32 m:Nat):Int):=Qau m;have q4:IntKind.u32.wrap ((pc:Int)+4)=((w32 ((pc:Int)+4):Nat):Int):=Qau _;have q4m:IntKind.u32.wrap (4*((w32 m:Nat):Int))=((w32 (4*(w32 m:Nat)):Nat):Int):=Qau _;have xA:=Qab hY A;have xB:=Qab hY B;have lm:=QaF m;have gS:=Qaq (x) (pc) (c) hx hc;have jM:=Qam (x) (pc) (c);have qU:=Qai (x) (pc) (c);have qY:=Qaj gS;have gpCC:=QaB (x) (pc) (c) hx;obtain ⟨V,hV⟩:∃ V,w32 ((pc:Int)+4)=V:=⟨_,rfl⟩;obtain ⟨PP,qX⟩:∃ PP,w32 ((x.getD B 0:Nat)+(w32 m:Nat))=PP:=⟨_,rfl⟩;rw [hV,qX];rw [hV] at q4;have qT:IntKind.u32.wrap (((x.getD B 0:Nat):Int)+((w32 m:Nat):Int))=(PP:Int):=by rw [Qau,qX]
 exact QHp
theorem Quq (x:List Nat) (pc:Nat) (c:List Nat) (o:Int) (A B C:Nat) (m:Int) (hx:x.length=16) (hc:c.length=8) (hY:ZL x) (gA:ZL c) (gQ:pc<4294967296) (hA:A<16) (hB:B<16) (hC:C<16) (hm:o=58->0<=m/\m<8) (gB: -32768<=m/\m<=65535) (ho:o=56) :
  FN 149 [.agg (Qax x pc c),.agg (iv o A B C m)] [] (. =⟨.tup [.agg (Qax (exX x pc c o A B C m) (exP x pc c o A B m) (exC x pc c o A m)),.agg (exE x o A m)],[],[]⟩):=by
 have eX:exX x pc c o A B C m=x:=QcK;have eP:exP x pc c o A B m=c.getD 1 0:=QD6;have eC:exC x pc c o A m=trL pc c 7 0:=by unfold exC;rw [zP (by omega)]
 have eE:exE x o A m= [.i 0,.i 0,.i 0,.u (0:Nat)]:=Qd0;rw [eX,eP,eC,eE];have rA:=Qav x pc c A hx hA;have rB:=Qav x pc c B hx hB;have rC:=Qav x pc c C hx hC;have qm:IntKind.u32.wrap m=((w32 m:Nat):Int):=Qau m;have q4:IntKind.u32.wrap ((pc:Int)+4)=((w32 ((pc:Int)+4):Nat):Int):=Qau _;have q4m:IntKind.u32.wrap (4*((w32 m:Nat):Int))=((w32 (4*(w32 m:Nat)):Nat):Int):=Qau _;have xA:=Qab hY A;have xB:=Qab hY B;have lm:=QaF m;have gS:=Qaq (x) (pc) (c) hx hc;have jM:=Qam (x) (pc) (c);have qU:=Qai (x) (pc) (c);have qY:=Qaj gS;have gpCC:=QaB (x) (pc) (c) hx;have fQ:=Qc0 x pc c 7 0 hx hc gA;rw [Qbl] at fQ;have gC:=Qaq (x) (c.getD 1 0) (trL pc c 7 0) hx (by first|rfl|simpa using hc);have fW:=Qam (x) (c.getD 1 0) (trL pc c 7 0);have gR:=Qai (x) (c.getD 1 0) (trL pc c 7 0);have fE:=Qaj gC;have gpC3:=QaB (x) (c.getD 1 0) (trL pc c 7 0) hx;generalize Qax (x) (c.getD 1 0) (trL pc c 7 0)=C3 at *;exact QIv
theorem QyS (x:List Nat) (pc:Nat) (c:List Nat) (o:Int) (A B C:Nat) (m:Int) (hx:x.length=16) (hc:c.length=8) (hY:ZL x) (gA:ZL c) (gQ:pc<4294967296) (hA:A<16) (hB:B<16) (hC:C<16) (hm:o=58->0<=m/\m<8) (gB: -32768<=m/\m<=65535) (ho:o=57) :
  FN 149 [.agg (Qax x pc c),.agg (iv o A B C m)] [] (. =⟨.tup [.agg (Qax (exX x pc c o A B C m) (exP x pc c o A B m) (exC x pc c o A m)),.agg (exE x o A m)],[],[]⟩):=by
 have eX:exX x pc c o A B C m=x:=QcK;have eP:exP x pc c o A B m=c.getD 2 0:=QD2;have eC:exC x pc c o A m=c.set 0 (QgR (c.getD 0 0)):=by unfold exC;rw [zN (by omega),zP (by omega)]
 have eE:exE x o A m= [.i 0,.i 0,.i 0,.u (0:Nat)]:=Qd0;rw [eX,eP,eC,eE];have rA:=Qav x pc c A hx hA;have rB:=Qav x pc c B hx hB;have rC:=Qav x pc c C hx hC;have qm:IntKind.u32.wrap m=((w32 m:Nat):Int):=Qau m;have q4:IntKind.u32.wrap ((pc:Int)+4)=((w32 ((pc:Int)+4):Nat):Int):=Qau _;have q4m:IntKind.u32.wrap (4*((w32 m:Nat):Int))=((w32 (4*(w32 m:Nat)):Nat):Int):=Qau _;have xA:=Qab hY A;have xB:=Qab hY B;have lm:=QaF m;have gS:=Qaq (x) (pc) (c) hx hc;have jM:=Qam (x) (pc) (c);have qU:=Qai (x) (pc) (c);have qY:=Qaj gS;have gpCC:=QaB (x) (pc) (c) hx;have fQ:=QyN x pc c hx hc gA;unfold QEX at fQ;have gC:=Qaq (x) (c.getD 2 0) (c.set 0 (QgR (c.getD 0 0))) hx (by first|rfl|simpa using hc);have fW:=Qam (x) (c.getD 2 0) (c.set 0 (QgR (c.getD 0 0)));have gR:=Qai (x) (c.getD 2 0) (c.set 0 (QgR (c.getD 0 0)));have fE:=Qaj gC;have gpC3:=QaB (x) (c.getD 2 0) (c.set 0 (QgR (c.getD 0 0))) hx;generalize Qax (x) (c.getD 2 0) (c.set 0 (QgR (c.getD 0 0)))=C3 at *;exact QIv
theorem QyQ (x:List Nat) (pc:Nat) (c:List Nat) (o:Int) (A B C:Nat) (m:Int) (hx:x.length=16) (hc:c.length=8) (hY:ZL x) (gA:ZL c) (gQ:pc<4294967296) (hA:A<16) (hB:B<16) (hC:C<16) (hm:o=58->0<=m/\m<8) (gB: -32768<=m/\m<=65535) (ho:o=58) :
  FN 149 [.agg (Qax x pc c),.agg (iv o A B C m)] [] (. =⟨.tup [.agg (Qax (exX x pc c o A B C m) (exP x pc c o A B m) (exC x pc c o A m)),.agg (exE x o A m)],[],[]⟩):=by
 have eX:exX x pc c o A B C m=QaD x A (c.getD m.toNat 0):=QD1;have eP:exP x pc c o A B m=w32 ((pc:Int)+4):=Qdd;have eC:exC x pc c o A m=c:=Qcg;have eE:exE x o A m= [.i 0,.i 0,.i 0,.u (0:Nat)]:=Qd0;rw [eX,eP,eC,eE];have rA:=Qav x pc c A hx hA;have rB:=Qav x pc c B hx hB;have rC:=Qav x pc c C hx hC;have qm:IntKind.u32.wrap m=((w32 m:Nat):Int):=Qau m;have q4:IntKind.u32.wrap ((pc:Int)+4)=((w32 ((pc:Int)+4):Nat):Int):=Qau _;have q4m:IntKind.u32.wrap (4*((w32 m:Nat):Int))=((w32 (4*(w32 m:Nat)):Nat):Int):=Qau _;have xA:=Qab hY A;have xB:=Qab hY B;have lm:=QaF m;have gS:=Qaq (x) (pc) (c) hx hc;have jM:=Qam (x) (pc) (c);have qU:=Qai (x) (pc) (c);have qY:=Qaj gS;have gpCC:=QaB (x) (pc) (c) hx;obtain ⟨V,hV⟩:∃ V,c.getD m.toNat 0=V:=⟨_,rfl⟩;obtain ⟨PP,qX⟩:∃ PP,w32 ((pc:Int)+4)=PP:=⟨_,rfl⟩;rw [hV,qX];rw [qX] at q4;have hm8:=hm ho;have rM:=Qdn x pc c m.toNat hx hc (by omega);rw [hV] at rM;have gN:=QgW x pc c A V hx hc hA;have jC:=QaN (QaD x A V) pc c PP (by rw [Qay];exact hx);have qR:=Qaq (QaD x A V) (pc) (c) (by rw [Qay];exact hx) hc;have HG:=Qam (QaD x A V) (pc) (c);have jS:=Qai (QaD x A V) (pc) (c);have wW:=Qaj qR;have gpC2:=QaB (QaD x A V) (pc) (c) (by rw [Qay];exact hx);have gC:=Qaq (QaD x A V) (PP) (c) (by rw [Qay];exact hx) hc;have fW:=Qam (QaD x A V) (PP) (c);have gR:=Qai (QaD x A V) (PP) (c);have fE:=Qaj gC;have gpC3:=QaB (QaD x A V) (PP) (c) (by rw [Qay];exact hx);generalize Qax (QaD x A V) (PP) (c)=C3,Qax (QaD x A V) (pc) (c)=C2 at *;clear eX eP eC eE;generalize x.getD A 0=vA,x.getD B 0=vB,x.getD C 0=vC,Qax (x) (pc) (c)=CC,w32 (4*((w32 m:Nat):Int))=m4 at *;generalize w32 m=mm,w32 ((pc:Int)+4)=p4 at *;refine fnW Tryz.func149 ?_;(repeat' ((conv=>whnf);first|exact zi2|(refine zj0 ?_;intro hb)|(with_reducible refine zv q4 ?_)|(apply Sd.mk; . first|exact ⟨gC,gR,rfl,(by show 0+C3.length<=25;omega)⟩|exact ⟨qR,jS,rfl,(by show 0+C2.length<=CC.length;omega)⟩|(show (0:Int)<=m/\m<(8:Int);omega)|(refine ⟨rfl,rfl,rfl,?_⟩;show 0+16+1<=C2.length;omega))|refine QIa ?_|refine zq1 ?_|((with_reducible apply Ge.mk (α:=SV)); . first|exact rM|exact gpC2)|(refine zpu gN ?_)|refine zse ?_|refine zbb ?_ ?_))
 all_goals exact zF_
theorem QyR (x:List Nat) (pc:Nat) (c:List Nat) (o:Int) (A B C:Nat) (m:Int) (hx:x.length=16) (hc:c.length=8) (hY:ZL x) (gA:ZL c) (gQ:pc<4294967296) (hA:A<16) (hB:B<16) (hC:C<16) (hm:o=58->0<=m/\m<8) (gB: -32768<=m/\m<=65535) (ho:o=59) :
  FN 149 [.agg (Qax x pc c),.agg (iv o A B C m)] [] (. =⟨.tup [.agg (Qax (exX x pc c o A B C m) (exP x pc c o A B m) (exC x pc c o A m)),.agg (exE x o A m)],[],[]⟩):=by
 have eX:exX x pc c o A B C m=x:=QcK;have eP:exP x pc c o A B m=w32 ((pc:Int)+4):=Qdd;have eC:exC x pc c o A m=wrL c m (x.getD A 0):=by unfold exC;rw [zN (by omega),zN (by omega),zP (by omega)]
 have eE:exE x o A m= [.i 0,.i 0,.i 0,.u (0:Nat)]:=Qd0;rw [eX,eP,eC,eE];have rA:=Qav x pc c A hx hA;have rB:=Qav x pc c B hx hB;have rC:=Qav x pc c C hx hC;have qm:IntKind.u32.wrap m=((w32 m:Nat):Int):=Qau m;have q4:IntKind.u32.wrap ((pc:Int)+4)=((w32 ((pc:Int)+4):Nat):Int):=Qau _;have q4m:IntKind.u32.wrap (4*((w32 m:Nat):Int))=((w32 (4*(w32 m:Nat)):Nat):Int):=Qau _;have xA:=Qab hY A;have xB:=Qab hY B;have lm:=QaF m;have gS:=Qaq (x) (pc) (c) hx hc;have jM:=Qam (x) (pc) (c);have qU:=Qai (x) (pc) (c);have qY:=Qaj gS;have gpCC:=QaB (x) (pc) (c) hx;have gN:=QrF x pc c m (x.getD A 0) hx hc xA;rw [Qwf] at gN;have jC:=QaN x pc (wrL c m (x.getD A 0)) (w32 ((pc:Int)+4)) hx;have qR:=Qaq (x) (pc) (wrL c m (x.getD A 0)) hx (by rw [Qg8];exact hc);have HG:=Qam (x) (pc) (wrL c m (x.getD A 0));have jS:=Qai (x) (pc) (wrL c m (x.getD A 0));have wW:=Qaj qR;have gpC2:=QaB (x) (pc) (wrL c m (x.getD A 0)) hx;have gC:=Qaq (x) (w32 ((pc:Int)+4)) (wrL c m (x.getD A 0)) hx (by rw [Qg8];exact hc);have fW:=Qam (x) (w32 ((pc:Int)+4)) (wrL c m (x.getD A 0));have gR:=Qai (x) (w32 ((pc:Int)+4)) (wrL c m (x.getD A 0));have fE:=Qaj gC;have gpC3:=QaB (x) (w32 ((pc:Int)+4)) (wrL c m (x.getD A 0)) hx;generalize Qax (x) (w32 ((pc:Int)+4)) (wrL c m (x.getD A 0))=C3,Qax (x) (pc) (wrL c m (x.getD A 0))=C2 at *;clear eX eP eC eE;generalize x.getD A 0=vA,x.getD B 0=vB,x.getD C 0=vC,Qax (x) (pc) (c)=CC,w32 (4*((w32 m:Nat):Int))=m4 at *;generalize w32 m=mm,w32 ((pc:Int)+4)=p4 at *;refine fnW Tryz.func149 ?_;(repeat' ((conv=>whnf);first|exact zi2|(refine zj0 ?_;intro hb)|(with_reducible refine zv q4 ?_)|(apply Sd.mk; . first|exact ⟨gC,gR,rfl,(by show 0+C3.length<=25;omega)⟩|exact ⟨qR,jS,rfl,(by show 0+C2.length<=CC.length;omega)⟩|(show (0:Int)<=A/\(A:Int)<16;omega)|(refine ⟨rfl,rfl,rfl,?_⟩;show 0+16+1<=C2.length;omega))|refine QIa ?_|refine zq1 ?_|((with_reducible apply Ge.mk (α:=SV)); . first|exact rA|exact gpC2)|(refine zpu gN ?_)|refine zse ?_|refine zbb ?_ ?_))
 all_goals exact zF_
theorem QGj (x:List Nat) (pc:Nat) (c:List Nat) (o:Int) (A B C:Nat) (m:Int) (hx:x.length=16) (hc:c.length=8) (hY:ZL x) (gA:ZL c) (gQ:pc<4294967296) (hA:A<16) (hB:B<16) (hC:C<16) (hm:o=58->0<=m/\m<8) (gB: -32768<=m/\m<=65535) (ho:o=60) :
  FN 149 [.agg (Qax x pc c),.agg (iv o A B C m)] [] (. =⟨.tup [.agg (Qax (exX x pc c o A B C m) (exP x pc c o A B m) (exC x pc c o A m)),.agg (exE x o A m)],[],[]⟩):=by
 have eX:exX x pc c o A B C m=x:=QcK;have eP:exP x pc c o A B m=w32 ((pc:Int)+4):=Qdd;have eC:exC x pc c o A m=c:=Qcg;have eE:exE x o A m= [.i 1,.i m,.i (A:Nat),.u (0:Nat)]:=by unfold exE;rw [zP (by omega)]
 exact QDy
theorem QCB (x:List Nat) (pc:Nat) (c:List Nat) (o:Int) (A B C:Nat) (m:Int) (hx:x.length=16) (hc:c.length=8) (hY:ZL x) (gA:ZL c) (gQ:pc<4294967296) (hA:A<16) (hB:B<16) (hC:C<16) (hm:o=58->0<=m/\m<8) (gB: -32768<=m/\m<=65535) (ho:o=61) :
  FN 149 [.agg (Qax x pc c),.agg (iv o A B C m)] [] (. =⟨.tup [.agg (Qax (exX x pc c o A B C m) (exP x pc c o A B m) (exC x pc c o A m)),.agg (exE x o A m)],[],[]⟩):=by
 have eX:exX x pc c o A B C m=x:=QcK;have eP:exP x pc c o A B m=w32 ((pc:Int)+4):=Qdd;have eC:exC x pc c o A m=c:=Qcg;have eE:exE x o A m= [.i 2,.i m,.i 0,.u (x.getD A 0:Nat)]:=by unfold exE;rw [zN (by omega),zP (by omega)]
 exact QDy
theorem QCC (x:List Nat) (pc:Nat) (c:List Nat) (o:Int) (A B C:Nat) (m:Int) (hx:x.length=16) (hc:c.length=8) (hY:ZL x) (gA:ZL c) (gQ:pc<4294967296) (hA:A<16) (hB:B<16) (hC:C<16) (hm:o=58->0<=m/\m<8) (gB: -32768<=m/\m<=65535) (ho:o=62) :
  FN 149 [.agg (Qax x pc c),.agg (iv o A B C m)] [] (. =⟨.tup [.agg (Qax (exX x pc c o A B C m) (exP x pc c o A B m) (exC x pc c o A m)),.agg (exE x o A m)],[],[]⟩):=by
 have eX:exX x pc c o A B C m=x:=QcK;have eP:exP x pc c o A B m=w32 ((pc:Int)+4):=Qdd;have eC:exC x pc c o A m=c:=Qcg;have eE:exE x o A m= [.i 3,.i 0,.i 0,.u (0:Nat)]:=by unfold exE;rw [zN (by omega),zN (by omega),zP (by omega)]
 exact QDy
theorem Qur (x:List Nat) (pc:Nat) (c:List Nat) (o:Int) (A B C:Nat) (m:Int) (hx:x.length=16) (hc:c.length=8) (hY:ZL x) (gA:ZL c) (gQ:pc<4294967296) (hA:A<16) (hB:B<16) (hC:C<16) (hm:o=58->0<=m/\m<8) (gB: -32768<=m/\m<=65535) (ho:o=63) :
  FN 149 [.agg (Qax x pc c),.agg (iv o A B C m)] [] (. =⟨.tup [.agg (Qax (exX x pc c o A B C m) (exP x pc c o A B m) (exC x pc c o A m)),.agg (exE x o A m)],[],[]⟩):=by
 have eX:exX x pc c o A B C m=x:=QcK;have eP:exP x pc c o A B m=w32 ((pc:Int)+4):=Qdd;have eC:exC x pc c o A m=c:=Qcg;have eE:exE x o A m= [.i 5,.i 0,.i 0,.u (0:Nat)]:=Qz2;exact QDy
theorem QyT (x:List Nat) (pc:Nat) (c:List Nat) (o:Int) (A B C:Nat) (m:Int) (hx:x.length=16) (hc:c.length=8) (hY:ZL x) (gA:ZL c) (gQ:pc<4294967296) (hA:A<16) (hB:B<16) (hC:C<16) (hm:o=58->0<=m/\m<8) (gB: -32768<=m/\m<=65535) (ho:o=64) :
  FN 149 [.agg (Qax x pc c),.agg (iv o A B C m)] [] (. =⟨.tup [.agg (Qax (exX x pc c o A B C m) (exP x pc c o A B m) (exC x pc c o A m)),.agg (exE x o A m)],[],[]⟩):=by
 have eX:exX x pc c o A B C m=x:=QcK;have eP:exP x pc c o A B m=w32 ((pc:Int)+4):=Qdd;have eC:exC x pc c o A m=c:=Qcg;have eE:exE x o A m= [.i 4,.i 0,.i 0,.u (0:Nat)]:=QlK;exact QDy
theorem Qui (x:List Nat) (pc:Nat) (c:List Nat) (o:Int) (A B C:Nat) (m:Int) (hx:x.length=16) (hc:c.length=8) (hY:ZL x) (gA:ZL c) (gQ:pc<4294967296) (hA:A<16) (hB:B<16) (hC:C<16) (hm:o=58->0<=m/\m<8) (gB: -32768<=m/\m<=65535) (ho:40<=o/\o<=45\/o=48\/o=49) :
  FN 150 [.agg (Qax x pc c),.agg (iv o A B C m)] [] (. =⟨.a (.agg (Qax (exX x pc c o A B C m) (exP x pc c o A B m) (exC x pc c o A m))),[],[]⟩):=by
 rcases ho with h|h|h
 .cases h3:Qdf o (x.getD A 0) (x.getD B 0) with
  | true=>exact QnB x pc c o A B C m hx hc hY gA gQ hA hB hC hm gB ⟨h,h3⟩
  | false=>exact Qlg x pc c o A B C m hx hc hY gA gQ hA hB hC hm gB ⟨h,h3⟩
 .exact QCz x pc c o A B C m hx hc hY gA gQ hA hB hC hm gB h
 .exact QyI x pc c o A B C m hx hc hY gA gQ hA hB hC hm gB h
theorem Qy2 (x:List Nat) (pc:Nat) (c:List Nat) (o:Int) (A B C:Nat) (m:Int) (hx:x.length=16) (hc:c.length=8) (hY:ZL x) (gA:ZL c) (gQ:pc<4294967296) (hA:A<16) (hB:B<16) (hC:C<16) (hm:o=58->0<=m/\m<8) (gB: -32768<=m/\m<=65535) (ho:56<=o/\o<=64) :
  FN 149 [.agg (Qax x pc c),.agg (iv o A B C m)] [] (. =⟨.tup [.agg (Qax (exX x pc c o A B C m) (exP x pc c o A B m) (exC x pc c o A m)),.agg (exE x o A m)],[],[]⟩):=by
 have e:o=56\/o=57\/o=58\/o=59\/o=60\/o=61\/o=62\/o=63\/o=64:=by omega
 rcases e with h|h|h|h|h|h|h|h|h
 .exact Quq x pc c o A B C m hx hc hY gA gQ hA hB hC hm gB h
 .exact QyS x pc c o A B C m hx hc hY gA gQ hA hB hC hm gB h
 .exact QyQ x pc c o A B C m hx hc hY gA gQ hA hB hC hm gB h
 .exact QyR x pc c o A B C m hx hc hY gA gQ hA hB hC hm gB h
 .exact QGj x pc c o A B C m hx hc hY gA gQ hA hB hC hm gB h
 .exact QCB x pc c o A B C m hx hc hY gA gQ hA hB hC hm gB h
 .exact QCC x pc c o A B C m hx hc hY gA gQ hA hB hC hm gB h
 .exact Qur x pc c o A B C m hx hc hY gA gQ hA hB hC hm gB h
 .exact QyT x pc c o A B C m hx hc hY gA gQ hA hB hC hm gB h
theorem Quj (x:List Nat) (pc:Nat) (c:List Nat) (xs:List Nat) (n:Nat) (o:Int) (A B C:Nat) (m:Int) (hx:x.length=16) (hc:c.length=8) (gK:ZL c) (gQ:pc<4294967296) (hl:xs.length=n) (hY:ZL xs) (hn:n<4294967296) (vG:ZL x) (hA:A<16) (hB:B<16) (ho:32<=o/\o<=34) :
  FN 151 [.agg (Qax x pc c),.s (.sl 0 0 n),.agg (iv o A B C m)] [⟨true,1,wsv xs⟩]
   (. =⟨.a (.agg (Qax (ldX x xs n (c.getD 0 0) (c.getD 6 0) (vaO x B m) o A) (trP pc c (rsK xs n (c.getD 0 0) (c.getD 6 0) (vaO x B m) (wd o) 2)) (trC pc c (rsK xs n (c.getD 0 0) (c.getD 6 0) (vaO x B m) (wd o) 2) (vaO x B m)))),[(0,some ⟨true,1,wsv (rsM xs n (c.getD 0 0) (c.getD 6 0) (vaO x B m) (wd o) 2)⟩)],[]⟩):=by
 have gX:vaO x B m<4294967296:=QaF _;have WY:True:=trivial;have hr:=QgV x pc c xs n (vaO x B m) (wd o) 2 hx hc gK hl hY hn gX;have rA:=Qav x pc c A hx hA;have rB:=Qav x pc c B hx hB;have xA:=Qab vG A;have qm:IntKind.u32.wrap m=((w32 m:Nat):Int):=Qau m;have q4:IntKind.u32.wrap ((pc:Int)+4)=((w32 ((pc:Int)+4):Nat):Int):=Qau _;have qv:IntKind.u32.wrap (((x.getD B 0:Nat):Int)+((w32 m:Nat):Int))=((vaO x B m:Nat):Int):=Qau _;have gL:=Qaa xs;generalize c.getD 0 0=S,c.getD 6 0=R,vaO x B m=va at *;have gS:=Qaq (x) (pc) (c) hx hc;have jM:=Qam (x) (pc) (c);have qU:=Qai (x) (pc) (c);have qY:=Qaj gS;have gpCC:=QaB (x) (pc) (c) hx;have GV:=Qaa (rsM xs n S R va (wd o) 2);unfold ldX trP trC
 by_cases hK:rsK xs n S R va (wd o) 2=0
 .have hok:=QhF hK
  obtain ⟨ha,wP⟩:=QhE hok gX;have gI:(rsM xs n S R va (wd o) 2).length=n:=by rw [Qbh];exact hl
  have gB:=Qc6 xs n S R va (wd o) 2 hY;rw [zP hK,zP hK,zP hK];rw [hK] at hr;generalize rsM xs n S R va (wd o) 2=M,rsA xs n S R va (wd o) 2=AA at *
  obtain ⟨V0,qK,hV⟩:∃ V0,FN 110 [.s (.sl 0 0 n),.s (.u AA),.s (.i (wd o))] [⟨false,1,wsv M⟩] (. =⟨.tup [.s (.u ((V0:Nat):Int)),.s (.bool true)],[],[]⟩)/\V0<4294967296/\ldV o M AA=(if o=33 then sx8 V0 else V0):=by
   by_cases h32:o=32
   .subst h32
    exact ⟨_,Qfd M n AA hn wP gI ha,Qab gB _,rfl⟩
   .have wT:wd o=1:=zN (by omega)
    rw [wT] at ha |-;refine ⟨_,QnC M n AA hn wP gI gB ha,Nat.lt_trans (QoN _ _) (by decide),?_⟩;unfold ldV;rw [zN h32]
  have GW:=Qy1 V0 hV.1;obtain ⟨V,YM⟩:∃ V,ldV o M AA=V:=⟨_,rfl⟩;rw [YM] at hV |-;have gN:=QgW x pc c A V hx hc hA;have jC:=QaN (QaD x A V) pc c (w32 ((pc:Int)+4)) (by rw [Qay];exact hx);have qR:=Qaq (QaD x A V) (pc) (c) (by rw [Qay];exact hx) hc;have HG:=Qam (QaD x A V) (pc) (c);have jS:=Qai (QaD x A V) (pc) (c);have wW:=Qaj qR;have gpC2:=QaB (QaD x A V) (pc) (c) (by rw [Qay];exact hx);have gC:=Qaq (QaD x A V) (w32 ((pc:Int)+4)) (c) (by rw [Qay];exact hx) hc;have fW:=Qam (QaD x A V) (w32 ((pc:Int)+4)) (c);have gR:=Qai (QaD x A V) (w32 ((pc:Int)+4)) (c);have fE:=Qaj gC;have gpC3:=QaB (QaD x A V) (w32 ((pc:Int)+4)) (c) (by rw [Qay];exact hx);clear YM;generalize wsv M=XM,wsv xs=XX,x.getD A 0=vA,x.getD B 0=vB,w32 m=mm,Qax (QaD x A V) (w32 ((pc:Int)+4)) (c)=C3,Qax (QaD x A V) (pc) (c)=C2,Qax (x) (pc) (c)=CC at *;generalize w32 ((pc:Int)+4)=p4 at *;have e:o=32\/o=33\/o=34:=by omega
  have hV0:=hV.1;rcases e with rfl|rfl|rfl
  all_goals first
   | (
     obtain hq:V=sx8 V0:=hV.2;rw [<- hq] at GW
     clear hq hV)
   | (
     obtain rfl:V=V0:=hV.2
     clear hV)
  all_goals
   refine fnW Tryz.func151 ?_;(repeat' ((conv=>whnf);first|exact zi2|(refine zj0 ?_;intro hb)|refine QFc ?_|refine QHa ?_|refine QDi ?_|refine zq1 ?_|((with_reducible apply Ge.mk (α:=SV)); . first|exact rB|exact gpC2)|(refine Qhk hr ?_)|(refine Qaz qK ?_)|(refine zpu GW ?_)|(refine zpu gN ?_)|refine zse ?_|refine zbb ?_ ?_))
   all_goals exact Qgg
 .have fQ:=Qc0 x pc c (rsK xs n S R va (wd o) 2) va hx hc gK
  rw [Qbl] at fQ;rw [zN hK,zN hK,zN hK];have gC:=Qaq (x) (c.getD 1 0) (trL pc c (rsK xs n S R va (wd o) 2) va) hx rfl;have fW:=Qam (x) (c.getD 1 0) (trL pc c (rsK xs n S R va (wd o) 2) va);have gR:=Qai (x) (c.getD 1 0) (trL pc c (rsK xs n S R va (wd o) 2) va);have fE:=Qaj gC;have gpC3:=QaB (x) (c.getD 1 0) (trL pc c (rsK xs n S R va (wd o) 2) va) hx;generalize wsv (rsM xs n S R va (wd o) 2)=XM,rsA xs n S R va (wd o) 2=AA,wsv xs=XX,x.getD A 0=vA,x.getD B 0=vB,w32 m=mm,Qax (x) (c.getD 1 0) (trL pc c (rsK xs n S R va (wd o) 2) va)=C3,Qax (x) (pc) (c)=CC at *;generalize rsK xs n S R va (wd o) 2=K at *;have e:o=32\/o=33\/o=34:=by omega
  rcases e with rfl|rfl|rfl
  all_goals
   refine fnW Tryz.func151 ?_;exact QEc
theorem Qry (x:List Nat) (pc:Nat) (c:List Nat) (xs:List Nat) (n:Nat) (o:Int) (A B C:Nat) (m:Int) (hx:x.length=16) (hc:c.length=8) (gK:ZL c) (gQ:pc<4294967296) (hl:xs.length=n) (hY:ZL xs) (hn:n<4294967296) (vG:ZL x) (hA:A<16) (hB:B<16) (ho:35<=o/\o<=36) :
  FN 151 [.agg (Qax x pc c),.s (.sl 0 0 n),.agg (iv o A B C m)] [⟨true,1,wsv xs⟩]
   (. =⟨.a (.agg (Qax x (trP pc c (rsK xs n (c.getD 0 0) (c.getD 6 0) (vaO x B m) (wd o) 3)) (trC pc c (rsK xs n (c.getD 0 0) (c.getD 6 0) (vaO x B m) (wd o) 3) (vaO x B m)))),[(0,some ⟨true,1,wsv (stX xs n (c.getD 0 0) (c.getD 6 0) (vaO x B m) (x.getD A 0) o)⟩)],[]⟩):=by
 have gX:vaO x B m<4294967296:=QaF _;have WY:True:=trivial;have hr:=QgV x pc c xs n (vaO x B m) (wd o) 3 hx hc gK hl hY hn gX;have rA:=Qav x pc c A hx hA;have rB:=Qav x pc c B hx hB;have xA:=Qab vG A;have qm:IntKind.u32.wrap m=((w32 m:Nat):Int):=Qau m;have q4:IntKind.u32.wrap ((pc:Int)+4)=((w32 ((pc:Int)+4):Nat):Int):=Qau _;have qv:IntKind.u32.wrap (((x.getD B 0:Nat):Int)+((w32 m:Nat):Int))=((vaO x B m:Nat):Int):=Qau _;have gL:=Qaa xs;generalize c.getD 0 0=S,c.getD 6 0=R,vaO x B m=va at *;have gS:=Qaq (x) (pc) (c) hx hc;have jM:=Qam (x) (pc) (c);have qU:=Qai (x) (pc) (c);have qY:=Qaj gS;have gpCC:=QaB (x) (pc) (c) hx;have GV:=Qaa (rsM xs n S R va (wd o) 3);unfold stX trP trC
 by_cases hK:rsK xs n S R va (wd o) 3=0
 .have hok:=QhF hK
  obtain ⟨ha,wP⟩:=QhE hok gX;have gI:(rsM xs n S R va (wd o) 3).length=n:=by rw [Qbh];exact hl
  have gB:=Qc6 xs n S R va (wd o) 3 hY;rw [zP hK,zP hK,zP hK];rw [hK] at hr;generalize rsM xs n S R va (wd o) 3=M,rsA xs n S R va (wd o) 3=AA at *
  have qK:FN 227 [.s (.sl 0 0 n),.s (.u AA),.s (.i (wd o)),.s (.u (x.getD A 0:Nat))] [⟨true,1,wsv M⟩] (. =⟨.tup [],[(0,some ⟨true,1,wsv (stM o M AA (x.getD A 0))⟩)],[]⟩):=by
   by_cases vJ:o=35
   .subst vJ
    exact Qt8 M n AA (x.getD A 0) wP gI ha
   .have wT:wd o=1:=zN (by omega)
    rw [wT] at ha |-;unfold stM;rw [zN vJ];exact Qt7 M n AA (x.getD A 0) wP gI ha
  have hss:=Qaa (stM o M AA (x.getD A 0));have jC:=QaN x pc c (w32 ((pc:Int)+4)) hx;have gC:=Qaq (x) (w32 ((pc:Int)+4)) (c) hx hc;have fW:=Qam (x) (w32 ((pc:Int)+4)) (c);have gR:=Qai (x) (w32 ((pc:Int)+4)) (c);have fE:=Qaj gC;have gpC3:=QaB (x) (w32 ((pc:Int)+4)) (c) hx;generalize wsv (stM o M AA (x.getD A 0))=XS,wsv M=XM,wsv xs=XX at *;generalize x.getD A 0=vA,x.getD B 0=vB,w32 m=mm,Qax (x) (w32 ((pc:Int)+4)) (c)=C3,Qax (x) (pc) (c)=CC at *;generalize w32 ((pc:Int)+4)=p4 at *;have e:o=35\/o=36:=by omega
  rcases e with rfl|rfl
  all_goals
   refine fnW Tryz.func151 ?_;(repeat' ((conv=>whnf);first|exact zi2|(refine zj0 ?_;intro hb)|refine QFc ?_|refine zq9 ?_|refine QzN ?_|refine zq1 ?_|refine QFa ?_|(refine Qhk hr ?_)|(refine Qhk qK ?_)|refine zse ?_|refine zbb ?_ ?_))
   all_goals exact Qgg
 .have fQ:=Qc0 x pc c (rsK xs n S R va (wd o) 3) va hx hc gK
  rw [Qbl] at fQ;rw [zN hK,zN hK,zN hK];have gC:=Qaq (x) (c.getD 1 0) (trL pc c (rsK xs n S R va (wd o) 3) va) hx rfl;have fW:=Qam (x) (c.getD 1 0) (trL pc c (rsK xs n S R va (wd o) 3) va);have gR:=Qai (x) (c.getD 1 0) (trL pc c (rsK xs n S R va (wd o) 3) va);have fE:=Qaj gC;have gpC3:=QaB (x) (c.getD 1 0) (trL pc c (rsK xs n S R va (wd o) 3) va) hx;generalize wsv (rsM xs n S R va (wd o) 3)=XM,rsA xs n S R va (wd o) 3=AA,wsv xs=XX,x.getD A 0=vA,x.getD B 0=vB,w32 m=mm,Qax (x) (c.getD 1 0) (trL pc c (rsK xs n S R va (wd o) 3) va)=C3,Qax (x) (pc) (c)=CC at *;generalize rsK xs n S R va (wd o) 3=K at *;have e:o=35\/o=36:=by omega
  rcases e with rfl|rfl
  all_goals
   refine fnW Tryz.func151 ?_;exact QEc
theorem Quo (o:Int):FN 148 [.s (.i o)] [] (. =⟨.a (.s (.bool (QgO o))),[],[]⟩):=by
 refine fnW Tryz.func148 ?_;(repeat' ((conv=>whnf);first|exact zi0|(refine zj0 ?_;intro hb)|refine zs0 ?_|refine zbb ?_ ?_));all_goals (conv=>whnf)
 all_goals
  apply Qan
  (focus rfl)
  simp only [Qbc];congr 3;simp only [QgO]
  first
   | (refine (zdf ?_).symm;omega)
   | (refine (zdt ?_).symm;omega)
   | (rw [zbi];simp only [zde];omega)
theorem Qlc (w:Nat) (hw:w<4294967296) (h:dOk w=true):FN 111 [.s (.u w)] [] (. =⟨.tup [.agg (iv (dOp w) (dA w) (dB w) (dC w) (dM w)),.s (.bool true)],[],[]⟩):=by
 have:=Qrf w hw;rw [h] at this;exact this
theorem Qlb (w:Nat) (hw:w<4294967296) (h:dOk w=false):FN 111 [.s (.u w)] [] (. =⟨.tup [.agg (iv 0 0 0 0 0),.s (.bool false)],[],[]⟩):=by
 have:=Qrf w hw;rw [h] at this;exact this
theorem QCs (x:List Nat) (pc:Nat) (c:List Nat) (xs:List Nat) (n:Nat) (hx:x.length=16) (hc:c.length=8) (gK:ZL c) (gQ:pc<4294967296) (hl:xs.length=n) (hY:ZL xs) (hn:n<4294967296) (vG:ZL x) (Q:Ex) (hQ:exS x pc c xs n=Q) :
  FN 83 [.agg (Qax x pc c),.s (.sl 0 0 n)] [⟨true,1,wsv xs⟩]
   (. =⟨.tup [.agg (Qax Q.x Q.pc Q.c),.agg Q.e],[(0,some ⟨true,1,wsv Q.m⟩)],[]⟩):=by
 have hr:=QgV x pc c xs n pc 4 1 hx hc gK hl hY hn gQ;have b1:=QlM (c.getD 0 0) (Qab gK 0);have g0:=Qdn x pc c 0 hx hc (by decide);have uA:=Qqh xs n (c.getD 0 0) (c.getD 6 0) pc hY;have hM:=Qc6 xs n (c.getD 0 0) (c.getD 6 0) pc 4 1 hY;have FW:(rsM xs n (c.getD 0 0) (c.getD 6 0) pc 4 1).length=n:=by rw [Qbh];exact hl
 have gL:=Qaa xs;have GV:=Qaa (rsM xs n (c.getD 0 0) (c.getD 6 0) pc 4 1);have gS:=Qaq (x) (pc) (c) hx hc;have jM:=Qam (x) (pc) (c);have qU:=Qai (x) (pc) (c);have qY:=Qaj gS;have gpCC:=QaB (x) (pc) (c) hx;unfold exS at hQ
 by_cases hK:rsK xs n (c.getD 0 0) (c.getD 6 0) pc 4 1=0
 case neg =>
  rw [zP hK] at hQ;subst hQ;have fQ:=Qc0 x pc c (rsK xs n (c.getD 0 0) (c.getD 6 0) pc 4 1) pc hx hc gK;rw [Qbl] at fQ;dsimp only [E0];have gC:=Qaq (x) (c.getD 1 0) (trL pc c (rsK xs n (c.getD 0 0) (c.getD 6 0) pc 4 1) (pc)) hx rfl;have fW:=Qam (x) (c.getD 1 0) (trL pc c (rsK xs n (c.getD 0 0) (c.getD 6 0) pc 4 1) (pc));have gR:=Qai (x) (c.getD 1 0) (trL pc c (rsK xs n (c.getD 0 0) (c.getD 6 0) pc 4 1) (pc));have fE:=Qaj gC;have gpC3:=QaB (x) (c.getD 1 0) (trL pc c (rsK xs n (c.getD 0 0) (c.getD 6 0) pc 4 1) (pc)) hx;generalize Qax (x) (c.getD 1 0) (trL pc c (rsK xs n (c.getD 0 0) (c.getD 6 0) pc 4 1) (pc))=C3 at *;generalize rsK xs n (c.getD 0 0) (c.getD 6 0) pc 4 1=K,rsA xs n (c.getD 0 0) (c.getD 6 0) pc 4 1=AA,wsv (rsM xs n (c.getD 0 0) (c.getD 6 0) pc 4 1)=XM,wsv xs=XX,Qax (x) (pc) (c)=CC at *;refine fnW Tryz.func83 ?_;(repeat' ((conv=>whnf);first|exact zi2|(refine zj0 ?_;intro hb)|refine Qwi ?_|refine zq4 ?_|refine zq1 ?_|refine QAH ?_|(refine Qhk hr ?_)|(refine zpu fQ ?_)|refine zse ?_|refine zbb ?_ ?_))
  all_goals exact Qgg
 rw [zN (fun h=>h hK)] at hQ;obtain ⟨ha,wP⟩:=QhE (QhF hK) gQ;have qK:=Qfd (rsM xs n (c.getD 0 0) (c.getD 6 0) pc 4 1) n (rsA xs n (c.getD 0 0) (c.getD 6 0) pc 4 1) hn wP FW ha;have hWe:(rsM xs n (c.getD 0 0) (c.getD 6 0) pc 4 1).getD (rsA xs n (c.getD 0 0) (c.getD 6 0) pc 4 1 / 4) 0=ftW xs n (c.getD 0 0) (c.getD 6 0) pc:=by unfold ftW;rw [zP hK]
 rw [hWe] at qK;rw [hK] at hr;generalize hS:c.getD 0 0=S,hR:c.getD 6 0=R at *;generalize hW:ftW xs n S R pc=W,hXM:rsM xs n S R pc 4 1=M,rsA xs n S R pc 4 1=AA at *;clear hK hW hXM hWe ha
 cases hd:dOk W with
 | false =>
  rw [zP hd] at hQ;subst hQ;have jR:=Qlb W uA hd;unfold iv at jR;have fQ:=Qc0 x pc c 1 W hx hc gK;rw [Qbl] at fQ;dsimp only [E0];have gC:=Qaq (x) (c.getD 1 0) (trL pc c (1) (W)) hx rfl;have fW:=Qam (x) (c.getD 1 0) (trL pc c (1) (W));have gR:=Qai (x) (c.getD 1 0) (trL pc c (1) (W));have fE:=Qaj gC;have gpC3:=QaB (x) (c.getD 1 0) (trL pc c (1) (W)) hx;generalize Qax (x) (c.getD 1 0) (trL pc c (1) (W))=C3,wsv M=XM,wsv xs=XX,Qax (x) (pc) (c)=CC at *;refine fnW Tryz.func83 ?_;(repeat' ((conv=>whnf);first|exact zi2|(refine zj0 ?_;intro hb)|refine Qwi ?_|refine zq4 ?_|refine zq1 ?_|refine QAH ?_|(refine Qhk hr ?_)|(refine Qaz qK ?_)|(refine zpu jR ?_)|(refine zpu fQ ?_)|refine zse ?_|refine zbb ?_ ?_));all_goals (conv=>whnf)
  all_goals exact Qgg
 | true =>
 rw [zN (by rw [hd];decide)] at hQ;have jR:=Qlc W uA hd;obtain ⟨a1,a2,b1',b2,c1,c2,m1,m2,_⟩:=Qh5 W hd;rw [a1,b1',c1] at jR;have gH:=Quo (dOp W);generalize nA W=A,nB W=B,nC W=C,dM W=m,dOp W=o at *;clear hd a1 b1' c1
 by_cases hpv:57<=o/\S%2=0
 .rw [zP hpv] at hQ
  subst hQ;rw [show QgO o=true from zdt (by omega)] at gH;replace b1:bits .and .u32 (S:Int) 1=0:=b1.trans (by rw [hpv.2];rfl);have fQ:=Qc0 x pc c 2 W hx hc gK;rw [Qbl] at fQ;dsimp only [E0];unfold iv at jR;have gC:=Qaq (x) (c.getD 1 0) (trL pc c (2) (W)) hx rfl;have fW:=Qam (x) (c.getD 1 0) (trL pc c (2) (W));have gR:=Qai (x) (c.getD 1 0) (trL pc c (2) (W));have fE:=Qaj gC;have gpC3:=QaB (x) (c.getD 1 0) (trL pc c (2) (W)) hx;generalize Qax (x) (c.getD 1 0) (trL pc c (2) (W))=C3,wsv M=XM,wsv xs=XX,Qax (x) (pc) (c)=CC at *;refine fnW Tryz.func83 ?_;(repeat' ((conv=>whnf);first|exact zi2|(refine zj0 ?_;intro hb)|refine QAJ ?_|refine Qwi ?_|refine zq4 ?_|refine zq1 ?_|((with_reducible apply Ge.mk (α:=SV)); . first|exact g0|exact gpCC)|(refine Qhk hr ?_)|(refine Qaz qK ?_)|(refine zpu jR ?_)|(refine zpu gH ?_)|(refine zpu fQ ?_)|refine zse ?_|refine zbb ?_ ?_))
  all_goals exact Qgg
 rw [zN hpv] at hQ;obtain ⟨bp,ZQ,jE⟩:∃ bp,QgO o=bp/\(bp=true->S%2=1):=⟨_,rfl,fun h=>by unfold QgO at h;simp only [zde] at h;omega⟩;rw [ZQ] at gH
 by_cases h32:32<=o/\o<=34
 .rw [zP h32] at hQ
  subst hQ;have jX:=Quj x pc c M n o A B C m hx hc gK gQ FW hM hn vG a2 b2 h32;rw [hS,hR] at jX;dsimp only [E0];have ZA:=Qaa (rsM M n S R (vaO x B m) (wd o) 2);obtain rfl:bp=false:=QDZ;clear jE hpv;have gC:=Qaq (ldX x M n S R (vaO x B m) o A) (trP pc c (rsK M n S R (vaO x B m) (wd o) 2)) (trC pc c (rsK M n S R (vaO x B m) (wd o) 2) (vaO x B m)) (by rw [QgE];exact hx) (Qfk _ _ _ _ hc);have fW:=Qam (ldX x M n S R (vaO x B m) o A) (trP pc c (rsK M n S R (vaO x B m) (wd o) 2)) (trC pc c (rsK M n S R (vaO x B m) (wd o) 2) (vaO x B m));have gR:=Qai (ldX x M n S R (vaO x B m) o A) (trP pc c (rsK M n S R (vaO x B m) (wd o) 2)) (trC pc c (rsK M n S R (vaO x B m) (wd o) 2) (vaO x B m));have fE:=Qaj gC;have gpC3:=QaB (ldX x M n S R (vaO x B m) o A) (trP pc c (rsK M n S R (vaO x B m) (wd o) 2)) (trC pc c (rsK M n S R (vaO x B m) (wd o) 2) (vaO x B m)) (by rw [QgE];exact hx);generalize Qax (ldX x M n S R (vaO x B m) o A) (trP pc c (rsK M n S R (vaO x B m) (wd o) 2)) (trC pc c (rsK M n S R (vaO x B m) (wd o) 2) (vaO x B m))=C3,wsv (rsM M n S R (vaO x B m) (wd o) 2)=XL,wsv M=XM,wsv xs=XX,Qax (x) (pc) (c)=CC at *;unfold iv at jR jX;refine fnW Tryz.func83 ?_;exact Qz9
 rw [zN h32] at hQ
 by_cases vJ:35<=o/\o<=36
 .rw [zP vJ] at hQ
  subst hQ;have jX:=Qry x pc c M n o A B C m hx hc gK gQ FW hM hn vG a2 b2 vJ;rw [hS,hR] at jX;dsimp only [E0];have ZA:=Qaa (stX M n S R (vaO x B m) (x.getD A 0) o);obtain rfl:bp=false:=QDZ;clear jE hpv;have gC:=Qaq (x) (trP pc c (rsK M n S R (vaO x B m) (wd o) 3)) (trC pc c (rsK M n S R (vaO x B m) (wd o) 3) (vaO x B m)) hx (Qfk _ _ _ _ hc);have fW:=Qam (x) (trP pc c (rsK M n S R (vaO x B m) (wd o) 3)) (trC pc c (rsK M n S R (vaO x B m) (wd o) 3) (vaO x B m));have gR:=Qai (x) (trP pc c (rsK M n S R (vaO x B m) (wd o) 3)) (trC pc c (rsK M n S R (vaO x B m) (wd o) 3) (vaO x B m));have fE:=Qaj gC;have gpC3:=QaB (x) (trP pc c (rsK M n S R (vaO x B m) (wd o) 3)) (trC pc c (rsK M n S R (vaO x B m) (wd o) 3) (vaO x B m)) hx;generalize Qax (x) (trP pc c (rsK M n S R (vaO x B m) (wd o) 3)) (trC pc c (rsK M n S R (vaO x B m) (wd o) 3) (vaO x B m))=C3,wsv (stX M n S R (vaO x B m) (x.getD A 0) o)=XL,wsv M=XM,wsv xs=XX,Qax (x) (pc) (c)=CC at *;unfold iv at jR jX;refine fnW Tryz.func83 ?_;exact Qz9
 rw [zN vJ] at hQ;subst hQ;obtain ⟨es,ek,el⟩:=Qh7 x o A m
 by_cases h56:56<=o
 .have jX:=Qy2 x pc c o A B C m hx hc vG gK gQ a2 b2 c2 m2 m1 (by omega)
  have gC:=Qaq (exX x pc c o A B C m) (exP x pc c o A B m) (exC x pc c o A m) (by rw [Qee];exact hx) (Qh6 x pc c o A m hc);have fW:=Qam (exX x pc c o A B C m) (exP x pc c o A B m) (exC x pc c o A m);have gR:=Qai (exX x pc c o A B C m) (exP x pc c o A B m) (exC x pc c o A m);have fE:=Qaj gC;have gpC3:=QaB (exX x pc c o A B C m) (exP x pc c o A B m) (exC x pc c o A m) (by rw [Qee];exact hx);dsimp only;generalize Qax (exX x pc c o A B C m) (exP x pc c o A B m) (exC x pc c o A m)=C3,wsv M=XM,wsv xs=XX,exE x o A m=EE at *;have WZ:∀ c:List SV,c.length=4->QaC c 0 EE=EE:=fun c hc=>Qcc (hc.trans el.symm)
  generalize Qax (x) (pc) (c)=CC at *;unfold iv at jR jX
  cases bp with
  | false =>
   refine fnW Tryz.func83 ?_;(repeat' ((conv=>whnf);first|exact zi2|(refine zj0 ?_;intro hb)|refine QIb ?_|refine QE2 ?_|refine QE9 ?_|refine QAH ?_|(refine Qhk hr ?_)|(refine Qaz qK ?_)|(refine zpu jR ?_)|(refine zpu gH ?_)|(refine zpu jX ?_)|refine zse ?_|refine zbb ?_ ?_));all_goals (conv=>whnf)
   all_goals exact Qgg
  | true =>
   replace b1:bits .and .u32 (S:Int) 1=1:=b1.trans (by rw [jE rfl];rfl);refine fnW Tryz.func83 ?_;(repeat' ((conv=>whnf);first|exact zi2|(refine zj0 ?_;intro hb)|refine QAJ ?_|refine QIb ?_|refine QE2 ?_|refine QE9 ?_|((with_reducible apply Ge.mk (α:=SV)); . first|exact g0|exact gpCC)|(refine Qhk hr ?_)|(refine Qaz qK ?_)|(refine zpu jR ?_)|(refine zpu gH ?_)|(refine zpu jX ?_)|refine zse ?_|refine zbb ?_ ?_))
   all_goals exact Qgg
 obtain rfl:bp=false:=QDZ;have eE:exE x o A m= [.i 0,.i 0,.i 0,.u (0:Nat)]:=Qd0;dsimp only;rw [eE];clear es ek el eE jE
 by_cases h40:40<=o
 .have jX:=Qui x pc c o A B C m hx hc vG gK gQ a2 b2 c2 m2 m1 (by omega)
  have gC:=Qaq (exX x pc c o A B C m) (exP x pc c o A B m) (exC x pc c o A m) (by rw [Qee];exact hx) (Qh6 x pc c o A m hc);have fW:=Qam (exX x pc c o A B C m) (exP x pc c o A B m) (exC x pc c o A m);have gR:=Qai (exX x pc c o A B C m) (exP x pc c o A B m) (exC x pc c o A m);have fE:=Qaj gC;have gpC3:=QaB (exX x pc c o A B C m) (exP x pc c o A B m) (exC x pc c o A m) (by rw [Qee];exact hx);generalize Qax (exX x pc c o A B C m) (exP x pc c o A B m) (exC x pc c o A m)=C3,wsv M=XM,wsv xs=XX,Qax (x) (pc) (c)=CC at *;unfold iv at jR jX;refine fnW Tryz.func83 ?_;(repeat' ((conv=>whnf);first|exact zi2|(refine zj0 ?_;intro hb)|refine Qwi ?_|refine zq4 ?_|refine zq1 ?_|refine QAH ?_|(refine Qhk hr ?_)|(refine Qaz qK ?_)|(refine zpu jR ?_)|(refine zpu gH ?_)|(refine zpu jX ?_)|refine zse ?_|refine zbb ?_ ?_))
  all_goals exact Qgg
 have eC:exC x pc c o A m=c:=Qcg;have eP:exP x pc c o A B m=w32 ((pc:Int)+4):=Qdd
 obtain ⟨V,hV,hV3,hVi,hVl⟩:∃ V,exX x pc c o A B C m=QaD x A V/\(o<=13->V=Qbs o (x.getD B 0) (x.getD C 0))/\(16<=o/\o<=23->V=Qbs o (x.getD B 0) (w32 m))/\(o=24->V=w32 ((w32 m:Nat)*65536)):=by
  unfold exX
  by_cases h1:1<=o/\o<=13
  .rw [zP h1]
   exact ⟨_,rfl,fun _=>rfl,fun h=>by omega,fun h=>by omega⟩
  .rw [zN h1]
   by_cases h2:16<=o/\o<=23
   .rw [zP h2]
    exact ⟨_,rfl,fun h=>by omega,fun _=>rfl,fun h=>by omega⟩
   .rw [zN h2,zP (by omega)]
    exact ⟨_,rfl,fun h=>by omega,fun h=>by omega,fun _=>rfl⟩
 rw [hV,eC,eP];have gN:=QgW x pc c A V hx hc a2;have rB:=Qav x pc c B hx b2;have rC:=Qav x pc c C hx c2;have xB:=Qab vG B;have xC:=Qab vG C;have lm:=QaF m;have qm:IntKind.u32.wrap m=((w32 m:Nat):Int):=Qau m;have q4:IntKind.u32.wrap ((pc:Int)+4)=((w32 ((pc:Int)+4):Nat):Int):=Qau _;have hal3:=Qrc o (x.getD B 0) (x.getD C 0) xB xC;have hali:=Qrc o (x.getD B 0) (w32 m) xB lm;rw [<- Qbf o (x.getD B 0) (x.getD C 0) xB xC] at hal3;rw [<- Qbf o (x.getD B 0) (w32 m) xB lm] at hali;have q16:IntKind.u32.wrap (((w32 m:Nat):Int)*2^min (Int.toNat 16) IntKind.u32.bits)=((w32 ((w32 m:Nat)*65536):Nat):Int):=by rw [show (2:Int)^min (Int.toNat 16) IntKind.u32.bits=65536 from rfl,Qau]
 have jC:=QaN (QaD x A V) pc c (w32 ((pc:Int)+4)) (by rw [Qay];exact hx);have qR:=Qaq (QaD x A V) (pc) (c) (by rw [Qay];exact hx) hc;have HG:=Qam (QaD x A V) (pc) (c);have jS:=Qai (QaD x A V) (pc) (c);have wW:=Qaj qR;have gpC2:=QaB (QaD x A V) (pc) (c) (by rw [Qay];exact hx);have gC:=Qaq (QaD x A V) (w32 ((pc:Int)+4)) (c) (by rw [Qay];exact hx) hc;have fW:=Qam (QaD x A V) (w32 ((pc:Int)+4)) (c);have gR:=Qai (QaD x A V) (w32 ((pc:Int)+4)) (c);have fE:=Qaj gC;have gpC3:=QaB (QaD x A V) (w32 ((pc:Int)+4)) (c) (by rw [Qay];exact hx);generalize Qax (QaD x A V) (w32 ((pc:Int)+4)) (c)=C3,Qax (QaD x A V) (pc) (c)=C2 at *;clear hV eC eP hpv;generalize w32 ((pc:Int)+4)=p4,QbT o=bb,Qbs o (x.getD B 0) (x.getD C 0)=V3,Qbs o (x.getD B 0) (w32 m)=Vi,w32 ((w32 m:Nat)*65536)=Vl_ at *;generalize w32 m=mm,x.getD B 0=vB,x.getD C 0=vC,wsv M=XM,wsv xs=XX,Qax (x) (pc) (c)=CC at *;unfold iv at jR
 by_cases YA:o<=13
 .obtain rfl:=hV3 YA
  refine fnW Tryz.func83 ?_;(repeat' ((conv=>whnf);first|exact zi2|(refine zj0 ?_;intro hb)|refine QzO ?_|(apply Sd.mk; . first|exact ⟨gC,gR,rfl,(by show 0+C3.length<=25;omega)⟩|exact ⟨qR,jS,rfl,(by show 0+C2.length<=CC.length;omega)⟩|(show (0:Int)<=B/\(B:Int)<16;omega)|(show (0:Int)<=C/\(C:Int)<16;omega)|(refine ⟨rfl,rfl,rfl,?_⟩;show 0+16+1<=C2.length;omega))|refine QDi ?_|refine zq1 ?_|((with_reducible apply Ge.mk (α:=SV)); . first|exact rB|exact rC|exact gpCC|exact gpC2)|(refine Qhk hr ?_)|(refine Qaz qK ?_)|(refine zpu jR ?_)|(refine zpu gH ?_)|(refine zpu hal3 ?_)|(refine zpu gN ?_)|refine zse ?_|refine zbb ?_ ?_))
  all_goals exact Qgg
 by_cases vI:o=24
 .obtain rfl:=hVl vI
  refine fnW Tryz.func83 ?_;(repeat' ((conv=>whnf);first|exact zi2|(refine zj0 ?_;intro hb)|(with_reducible first|refine zv qm ?_|refine zv q4 ?_|refine zv q16 ?_)|(apply Sd.mk; . first|exact ⟨gC,gR,rfl,(by show 0+C3.length<=25;omega)⟩|exact ⟨qR,jS,rfl,(by show 0+C2.length<=CC.length;omega)⟩|(refine ⟨rfl,rfl,rfl,?_⟩;show 0+16+1<=C2.length;omega))|refine QDi ?_|refine zq1 ?_|((with_reducible apply Ge.mk (α:=SV)); . first|exact gpCC|exact gpC2)|(refine Qhk hr ?_)|(refine Qaz qK ?_)|(refine zpu jR ?_)|(refine zpu gH ?_)|(refine zpu gN ?_)|refine zse ?_|refine zbb ?_ ?_))
  all_goals exact Qgg
 .obtain rfl:=hVi (by omega)
  refine fnW Tryz.func83 ?_;(repeat' ((conv=>whnf);first|exact zi2|(refine zj0 ?_;intro hb)|refine QzO ?_|refine QHa ?_|refine QDi ?_|refine zq1 ?_|((with_reducible apply Ge.mk (α:=SV)); . first|exact rB|exact gpCC|exact gpC2)|(refine Qhk hr ?_)|(refine Qaz qK ?_)|(refine zpu jR ?_)|(refine zpu gH ?_)|(refine zpu hali ?_)|(refine zpu gN ?_)|refine zse ?_|refine zbb ?_ ?_))
  all_goals exact Qgg
theorem Qxn (x:List Nat) (pc:Nat) (c:List Nat) (xs:List Nat) (n:Nat) (hx:x.length=16) (hc:c.length=8):(exS x pc c xs n).x.length=16/\(exS x pc c xs n).c.length=8/\(exS x pc c xs n).m.length=xs.length/\Qad (exS x pc c xs n).e=true/\Qat (exS x pc c xs n).e=true/\(exS x pc c xs n).e.length=4:=by
 unfold exS;split
 .exact ⟨hx,rfl,Qbh _ _ _ _ _ _ _,rfl,rfl,rfl⟩
 .split
  .exact ⟨hx,rfl,Qbh _ _ _ _ _ _ _,rfl,rfl,rfl⟩
  .split
   .exact ⟨hx,rfl,Qbh _ _ _ _ _ _ _,rfl,rfl,rfl⟩
   .split
    .refine ⟨by dsimp only;rw [QgE];exact hx,Qfk _ _ _ _ hc,by dsimp only;rw [Qbh,Qbh],rfl,rfl,rfl⟩
    .split
     .refine ⟨hx,Qfk _ _ _ _ hc,?_,rfl,rfl,rfl⟩
      dsimp only;unfold stX;split
      .rw [Qcs,Qbh,Qbh]
      .rw [Qbh,Qbh]
     .exact ⟨by dsimp only;rw [Qee];exact hx,Qh6 _ _ _ _ _ _ hc,Qbh _ _ _ _ _ _ _,Qh7 _ _ _ _⟩
end Go.Proofs.YtpgkkfajljekpaaGreat
