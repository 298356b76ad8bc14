import Derived.Test.YtpgkkfajljekpabGreatQ22
set_option linter.unusedSimpArgs false
set_option linter.unusedVariables false
set_option maxHeartbeats 0
set_option maxRecDepth 100000
namespace Go.Proofs.YtpgkkfajljekpabGreat
open Go Go.RowKit
theorem Qto (E:Eg) (hE:E.ok):FN 49 [.s (.ptr 0 0)] [⟨true,1,E.C 1 2 3 4⟩,⟨true,1,wsv E.M.m⟩,⟨true,4,tes E.T⟩,⟨true,3,bks E.B⟩,⟨true,4,OLs E.o⟩] (. =⟨.a (.s (.bool (Qjp E.M))),[],[]⟩):=by
 have ci:=QeF E.M hE.M;have cr:=Qfa E.M hE.M;obtain ⟨R,hR⟩:∃ R,Qjp E.M=R:=⟨_,rfl⟩;rw [hR];unfold Qjp at hR;generalize Qhk E.M=b1,Qd5 E.M=b2 at *;have fD:=Qaa E.M.m;have gO:=Qae E.T;have gZ:=Qac E.B;have fY:=(Qax hE.o).2.1;obtain ⟨hM,hT,_,hB,_,ho,_,_⟩:=hE;obtain ⟨M,T,B,o,_,s⟩:=E;dsimp only [Eg.H,Eg.R,Eg.Rk,Eg.C,wrt] at *;obtain ⟨hx,hc,hY,gA,gH,gB,gI,gE,gD,gG⟩:=hM;obtain ⟨_,_,_,m,_,_,_,_,d,n⟩:=M;dsimp only at *;cases QaJ hx;cases zC8 hc;cases d;cases n;dsimp only [Mc.C,Mc.D,Dk.C,Nk.C,Dk.ok,Nk.ok] at *
 try dsimp only [cR,Mc.C,Mc.D,Dk.C,Nk.C] at *
 try simp only [Qaf,zca,zna,List.getD_cons_succ,List.getD_cons_zero] at *
 generalize gP:wsv m=XX,hX3:bks B=BB,hX4:OLs o=OO,gJ:m.length=nn,gM:B.length=bn,gQ:o.length=on,gV:tes T=TT,htn:T.length=tn at *;clear gP gV hX3 hX4 gJ gM gQ htn hT hB ho hY gA gH gB gI gE gD gG;refine fnW Tryz.func49 ?_;(conv=>whnf);(repeat' ((first|exact zi2|refine zj0 fun hb=>?_|(refine QaA ci ?_)|(refine QaA cr ?_)|refine zse ?_|refine zbb ?_ ?_)<;>conv=>whnf))
 all_goals first
  | (refine QcJ ?_ ?_;(focus (apply Fin.mk (m:= [(0,some 0),(1,some 1),(2,some 2),(3,some 3),(4,some 4)]);(focus exact rfl);(all_goals ((try (show HlS _ _ [] _));first|(exact aFi)|exact rfl))));rw [<- hR];symm;first|(simp_all;done)|(simp_all;omega)|(rw [zbi];simp_all;done)|(rw [zbi];simp_all;omega)|grind)
theorem Qr8 (M0:Mc) (E:Eg) (hE:E.ok):∃ (T2:List Te) (B2:List Bk) (s2:Bool),stl M0 E=⟨E.M,T2,B2,E.o,E.f,s2⟩/\(stl M0 E).ok:=by
 have h:∀ (l:List Nat) (F:Eg),F.ok->∃ (T2:List Te) (B2:List Bk) (s2:Bool),l.foldl QcM F=⟨F.M,T2,B2,F.o,F.f,s2⟩/\(l.foldl QcM F).ok:=fun l=>by
  induction l with
  | nil=>exact fun F hF=>⟨F.T,F.B,F.s,rfl,hF⟩
  | cons i l ih =>
   intro F hF;obtain ⟨T2,B2,s2,h1,h2⟩:=ih (QcM F i) (Qr7 hF i);have he:(QcM F i).M=F.M/\(QcM F i).o=F.o/\(QcM F i).f=F.f:=by unfold QcM;split<;>exact ⟨rfl,rfl,rfl⟩
   refine ⟨T2,B2,s2,?_,h2⟩;show l.foldl QcM (QcM F i)=_;rw [h1,he.1,he.2.1,he.2.2]
 have h0:(QkC (cR M0) E).ok/\(QkC (cR M0) E).M=E.M/\(QkC (cR M0) E).o=E.o/\(QkC (cR M0) E).f=E.f:=by
  unfold QkC;split
  .exact ⟨hE,rfl,rfl,rfl⟩
  .exact ⟨⟨hE.M,QiZ,Nat.zero_le _,hE.B,hE.bl,hE.o,hE.ol,hE.f⟩,rfl,rfl,rfl⟩
 obtain ⟨T2,B2,s2,h1,h2⟩:=h (Qd2 M0.m E.M.m E.M.m.length) _ h0.1;rw [h0.2.1,h0.2.2.1,h0.2.2.2] at h1;exact ⟨T2,B2,s2,h1,h2⟩
theorem QiL (M:Mc) (hM:M.ok) (w:Nat) (hw:ZU w):(Qdj M w).1.ok/\QjQ (Qdj M w).2/\(Qdj M w).1.m.length=M.m.length:=by
 unfold Qdj;split
 .exact ⟨hM,(fun l h=>by cases h),rfl⟩
 .exact ⟨Qea M hM w hw,QeA M w,Qez M hM w⟩
theorem Qn4 (fJ:FN 266 [.s (.str ⟨#[0]⟩),.s (.i 128)] [] (. =⟨.a (.s (.str z128)),[],[]⟩)) (E:Eg) (hE:E.ok) (FX:E.o.length<900000) (w:Nat) (hw:ZU w) (hO:(Qdj E.M w).2=none) :
  FN 51 [.s (.ptr 0 0),.s (.u w)] E.H (. =(sgl w E).R (.tup [])):=by
 have cs:=Qmf fJ E.M hE.M w;clear fJ;obtain ⟨g1,g2,g3⟩:=QiL E.M hE.M w hw;unfold sgl;obtain ⟨M2,wE⟩:∃ M2,(Qdj E.M w).1=M2:=⟨_,rfl⟩;rw [hO] at cs g2 |-;rw [wE] at cs g1 g3 |-;dsimp only [Option.toList,oS,oR] at cs |-;rw [List.append_nil];have HN:(⟨M2,E.T,E.B,E.o,E.f,E.s⟩:Eg).ok:=⟨g1,hE.T,hE.tl,hE.B,hE.bl,hE.o,hE.ol,hE.f⟩;have cset:=Qkf E.M hE.M ⟨M2,E.T,E.B,E.o,E.f,E.s⟩ HN g3.symm;obtain ⟨T2,B2,_,he,hok⟩:=Qr8 E.M ⟨M2,E.T,E.B,E.o,E.f,E.s⟩ HN;rw [he] at cset;change Fn _ _ _ _ (. =(stl E.M ⟨M2,E.T,E.B,E.o,E.f,E.s⟩).R (.tup []));rw [he];clear he hok HN g2;have yO:(OLs E.o).length=E.o.length*ty91.size:=(Qax hE.o).1;have wG:=Qae T2;have zD:=Qac B2;have zH:=Qaa M2.m;obtain ⟨jU,GR,_,_,_,_,_,_,_,_⟩:=g1;have fD:=Qaa E.M.m;have gO:=Qae E.T;have gZ:=Qac E.B;have fY:=(Qax hE.o).2.1;obtain ⟨hM,hT,_,hB,_,ho,jF,_⟩:=hE;obtain ⟨M,T,B,o,f,s⟩:=E;dsimp only [Eg.H,Eg.R,Eg.Rk,Eg.C,wrt] at *;obtain ⟨_,_,_,mg,_,_,_,_,d',n'⟩:=M2;dsimp only at *;cases QaJ jU;cases zC8 GR;obtain ⟨_,_,_,_,_,_,_,_⟩:=d';obtain ⟨_,_,_,_,_,_⟩:=n';generalize YI:wsv mg=XV,hT2v:tes T2=TT2,hB2v:bks B2=BB2,T2.length=t2n,B2.length=b2n at *;clear wE hO;obtain ⟨hx,hc,hY,gA,gH,gB,gI,gE,gD,gG⟩:=hM;obtain ⟨_,_,_,m,_,_,_,_,d,n⟩:=M;dsimp only at *;cases QaJ hx;cases zC8 hc;cases d;cases n;dsimp only [Mc.C,Mc.D,Dk.C,Nk.C,Dk.ok,Nk.ok] at *
 try dsimp only [cR,Mc.C,Mc.D,Dk.C,Nk.C] at *
 try simp only [Qaf,zca,zna,List.getD_cons_succ,List.getD_cons_zero] at *
 generalize gP:wsv m=XX,hX3:bks B=BB,hX4:OLs o=OO,gJ:m.length=nn,gM:B.length=bn,gQ:o.length=on,gV:tes T=TT,htn:T.length=tn,hg3:mg.length=nn3 at *;subst g3;have hol3:on<=900000:=jF;clear gP gV hX3 hX4 gJ gM gQ htn hT hB ho hY gA gH gB gI gE gD gG hg3 YI hT2v hB2v;refine fnW Tryz.func51 ?_;(repeat' ((conv=>whnf);first|exact zi2|refine zj0 fun hb=>?_|refine zq0 ?_|refine QAM ?_|((with_reducible apply Vl.mk (α:=List SV)); . with_reducible exact List.append_nil OO)|(refine QaA cs ?_)|(refine Qks cset ?_)|refine zse ?_|refine zbb ?_ ?_))
 all_goals exact QD3
theorem Qn5 (fJ:FN 266 [.s (.str ⟨#[0]⟩),.s (.i 128)] [] (. =⟨.a (.s (.str z128)),[],[]⟩)) (E:Eg) (hE:E.ok) (FX:E.o.length<900000) (w:Nat) (hw:ZU w) (l:List SV) (hO:(Qdj E.M w).2=some l) :
  FN 51 [.s (.ptr 0 0),.s (.u w)] E.H (. =(sgl w E).R (.tup [])):=by
 have cs:=Qmf fJ E.M hE.M w;clear fJ;obtain ⟨g1,g2,g3⟩:=QiL E.M hE.M w hw;unfold sgl;obtain ⟨M2,wE⟩:∃ M2,(Qdj E.M w).1=M2:=⟨_,rfl⟩;rw [hO] at cs g2 |-;rw [wE] at cs g1 g3 |-;dsimp only [Option.toList,oS,oR] at cs |-;obtain ⟨uD,_,uE⟩:=g2 l rfl;have uS:Qbe (E.o++ [l]):=QcS (O:=some l) hE.o g2;have hOa:=QkF E.o l;have wM:(E.o++ [l]).length=E.o.length+1:=by simp
 have HN:(⟨M2,E.T,E.B,E.o++ [l],E.f,E.s⟩:Eg).ok:=⟨g1,hE.T,hE.tl,hE.B,hE.bl,uS,by show (E.o++ [l]).length<=_;omega,hE.f⟩;have cset:=Qkf E.M hE.M ⟨M2,E.T,E.B,E.o++ [l],E.f,E.s⟩ HN g3.symm;obtain ⟨T2,B2,_,he,hok⟩:=Qr8 E.M ⟨M2,E.T,E.B,E.o++ [l],E.f,E.s⟩ HN;have JJ:Qao (OLs (E.o++ [l]))=true:=(Qax uS).2.1;rw [he] at cset;change Fn _ _ _ _ (. =(stl E.M ⟨M2,E.T,E.B,E.o++ [l],E.f,E.s⟩).R (.tup []));rw [he];clear he hok HN g2;have yO:(OLs E.o).length=E.o.length*ty91.size:=(Qax hE.o).1;have wG:=Qae T2;have zD:=Qac B2;have zH:=Qaa M2.m;obtain ⟨jU,GR,_,_,_,_,_,_,_,_⟩:=g1;have fD:=Qaa E.M.m;have gO:=Qae E.T;have gZ:=Qac E.B;have fY:=(Qax hE.o).2.1;obtain ⟨hM,hT,_,hB,_,ho,jF,_⟩:=hE;obtain ⟨M,T,B,o,f,s⟩:=E;dsimp only [Eg.H,Eg.R,Eg.Rk,Eg.C,wrt] at *;generalize OLs (o++ [l])=OO2 at *;rw [wM] at *;obtain ⟨_,_,_,mg,_,_,_,_,d',n'⟩:=M2;dsimp only at *;cases QaJ jU;cases zC8 GR;obtain ⟨_,_,_,_,_,_,_,_⟩:=d';obtain ⟨_,_,_,_,_,_⟩:=n';generalize YI:wsv mg=XV,hT2v:tes T2=TT2,hB2v:bks B2=BB2,T2.length=t2n,B2.length=b2n at *;clear wE hO;obtain ⟨hx,hc,hY,gA,gH,gB,gI,gE,gD,gG⟩:=hM;obtain ⟨_,_,_,m,_,_,_,_,d,n⟩:=M;dsimp only at *;cases QaJ hx;cases zC8 hc;cases d;cases n;dsimp only [Mc.C,Mc.D,Dk.C,Nk.C,Dk.ok,Nk.ok] at *
 try dsimp only [cR,Mc.C,Mc.D,Dk.C,Nk.C] at *
 try simp only [Qaf,zca,zna,List.getD_cons_succ,List.getD_cons_zero] at *
 generalize gP:wsv m=XX,hX3:bks B=BB,hX4:OLs o=OO,gJ:m.length=nn,gM:B.length=bn,gQ:o.length=on,gV:tes T=TT,htn:T.length=tn,hg3:mg.length=nn3 at *;subst g3;have hol3:on<=900000:=jF;clear gP gV hX3 hX4 gJ gM gQ htn hT hB ho hY gA gH gB gI gE gD gG hg3 YI hT2v hB2v;refine fnW Tryz.func51 ?_;(repeat' ((conv=>whnf);first|exact zi2|refine zj0 fun hb=>?_|refine zq0 ?_|refine QAM ?_|(apply Sk.mk; . exact QcB l uD uE)|((with_reducible apply Vl.mk (α:=List SV)); . with_reducible exact hOa.symm)|(refine QaA cs ?_)|(refine Qks cset ?_)|refine zse ?_|refine zbb ?_ ?_))
 all_goals exact QD3
theorem Qkg (fJ:FN 266 [.s (.str ⟨#[0]⟩),.s (.i 128)] [] (. =⟨.a (.s (.str z128)),[],[]⟩)) (E:Eg) (hE:E.ok) (FX:E.o.length<900000) (w:Nat) (hw:ZU w) :
  FN 51 [.s (.ptr 0 0),.s (.u w)] E.H (. =(sgl w E).R (.tup [])):=by
 cases hO:(Qdj E.M w).2 with
 | none=>exact Qn4 fJ E hE FX w hw hO
 | some l=>exact Qn5 fJ E hE FX w hw l hO
theorem QlI {x:List Nat} (hx:x.length=16) (hr:ZL x) (a v:Nat) (hv:ZU v):(QaD x a v).length=16/\∀ y∈QaD x a v,y<4294967296:=⟨by rw [Qaz];exact hx,QdE hr a v hv⟩
theorem QBU {E:Eg} (hE:E.ok) (a v pc:Nat) (hv:ZU v) (gR:ZU pc):(fnE E a v pc).ok :=
 ⟨⟨(QlI hE.M.x hE.M.xr a v hv).1,hE.M.c,(QlI hE.M.x hE.M.xr a v hv).2,hE.M.cr,gR,hE.M.mr,hE.M.ml,hE.M.dk,hE.M.nk,hE.M.dv⟩,hE.T,hE.tl,hE.B,hE.bl,hE.o,hE.ol,hE.f⟩
theorem QxJ {E:Eg} (hC:Coh E) (a v pc:Nat):Coh (fnE E a v pc):=⟨hC.n,hC.T,hC.B⟩
theorem QhB {E:Eg} (hE:E.ok) (n:Nat):(ctE n E).ok:=⟨⟨hE.M.x,hE.M.c,hE.M.xr,hE.M.cr,hE.M.pr,hE.M.mr,hE.M.ml,hE.M.dk,hE.M.nk,⟨hE.M.dv.1,hE.M.dv.2.1,hE.M.dv.2.2.1,Nat.mod_lt _ (by decide),hE.M.dv.2.2.2.2⟩⟩,hE.T,hE.tl,hE.B,hE.bl,hE.o,hE.ol,hE.f⟩
theorem Qgz {E:Eg} (hC:Coh E) (n:Nat):Coh (ctE n E):=⟨hC.n,hC.T,hC.B⟩
theorem QhT (o:Int):szO o=1\/szO o=4:=by unfold szO;split;exact .inr rfl;exact .inl rfl
theorem QuS {E:Eg} (hE:E.ok) (hC:Coh E) (m:Mi) (a v:Nat) (ha:a / 4<E.M.m.length):Coh (QhS E m a v):=by
 have gF:=Qcs m.o E.M.m a v;have yG:∀ j,j≠a / 4->(stM m.o E.M.m a v).getD j 0=E.M.m.getD j 0:=fun j hj=>by grind [stM,QeN,QnD,QhS]
 have hB:Qhg (stM m.o E.M.m a v) E.M.m.length (wrt (a / 128) { E with M:= { E.M with m:=stM m.o E.M.m a v } }).B:=by
  refine QkT E.M.m _ _ E.B _ List.filter_sublist (fun b hb j hj=>?_) hC.B;have fQ:=of_decide_eq_true (List.mem_filter.1 hb).2;refine (yG j (fun h=>fQ ?_)).symm;unfold fk;subst h;congr 1;omega
 unfold QhS;dsimp only;split
 .refine ⟨?_,Qmc _ _ _,?_⟩
  .show mpg (stM m.o E.M.m a v).length*32=(stM m.o E.M.m a v).length;rw [gF];exact hC.n
  .show Qhg (stM m.o E.M.m a v) (stM m.o E.M.m a v).length _;rw [gF];exact hB
 .rename_i hq
  refine ⟨?_,?_,?_⟩
  .show mpg (stM m.o E.M.m a v).length*32=(stM m.o E.M.m a v).length;rw [gF];exact hC.n
  .show Qhz E.T (stM m.o E.M.m a v) (stM m.o E.M.m a v).length (cR E.M)=true
   rw [gF];refine Qji (fun j hj=>(yG j (fun h=>hq ?_)).symm) hC.T;subst h;show a / 128=cR E.M;omega
  .show Qhg (stM m.o E.M.m a v) (stM m.o E.M.m a v).length _;rw [gF];exact hB
theorem QuT {E:Eg} (hE:E.ok) (m:Mi) (a v:Nat) (hv:ZU v):(QhS E m a v).ok:=by
 have gI:=hE.M.ml;have h0:(⟨{ E.M with m:=stM m.o E.M.m a v },E.T,E.B,E.o,E.f,E.s⟩:Eg).ok:=⟨⟨hE.M.x,hE.M.c,hE.M.xr,hE.M.cr,hE.M.pr,Qr6 m.o E.M.m a v hE.M.mr hv,by show (stM _ _ _ _).length<=_;rw [Qcs];exact gI,hE.M.dk,hE.M.nk,hE.M.dv⟩,hE.T,hE.tl,hE.B,hE.bl,hE.o,hE.ol,hE.f⟩;unfold QhS;dsimp only;split
 .exact ⟨h0.M,QiZ,Nat.zero_le _,fun b hb=>hE.B b (List.mem_filter.1 hb).1,Nat.le_trans (List.length_filter_le _ _) hE.bl,hE.o,hE.ol,hE.f⟩
 .exact ⟨h0.M,hE.T,hE.tl,fun b hb=>hE.B b (List.mem_filter.1 hb).1,Nat.le_trans (List.length_filter_le _ _) hE.bl,hE.o,hE.ol,hE.f⟩
def fnM (M:Mc) (a v pc:Nat):Mc:= { M with x:=QaD M.x a v,pc:=pc }
def mO (M:Mc) (va sz:Nat) (ac:Int):Bool:=rsO M.m M.m.length (M.c.getD 0 0) (cR M) va sz ac
def mA (M:Mc) (va sz:Nat) (ac:Int):Nat:=rsA M.m M.m.length (M.c.getD 0 0) (cR M) va sz ac
def mM (M:Mc) (va sz:Nat) (ac:Int):List Nat:=rsM M.m M.m.length (M.c.getD 0 0) (cR M) va sz ac
def vaM (M:Mc) (m:Mi):Nat:=w32 ((M.x.getD m.b 0:Nat)+(m.k:Nat))
def opM (M:Mc) (m:Mi):Option Mc :=
 if m.o=24 then some (fnM M m.a m.k (w32 ((lpc M.pc m.n:Nat)+4)))
 else if 32<=m.o/\m.o<=34 then
  (if mO M (vaM M m) (szO m.o) 2=true then some (fnM { M with m:=mM M (vaM M m) (szO m.o) 2 } m.a (ldV m.o (mM M (vaM M m) (szO m.o) 2) (mA M (vaM M m) (szO m.o) 2)) (w32 ((lpc M.pc m.n:Nat)+4))) else none)
 else if m.o=35\/m.o=36 then
  (if mO M (vaM M m) (szO m.o) 3=true then some (fnM { M with m:=stM m.o (mM M (vaM M m) (szO m.o) 3) (mA M (vaM M m) (szO m.o) 3) (M.x.getD m.a 0) } 0 0 (w32 ((lpc M.pc m.n:Nat)+4))) else none)
 else if 40<=m.o/\m.o<=45 then
  some (fnM M 0 0 (if Qdk m.o (M.x.getD m.a 0) (M.x.getD m.b 0)=true then w32 ((lpc M.pc m.n:Nat)+(m.k:Nat)) else w32 ((lpc M.pc m.n:Nat)+4)))
 else if m.o=48 then some (fnM M m.a (w32 ((lpc M.pc m.n:Nat)+4)) (w32 ((lpc M.pc m.n:Nat)+(m.k:Nat))))
 else if m.o=49 then some (fnM M m.a (w32 ((lpc M.pc m.n:Nat)+4)) (w32 ((M.x.getD m.b 0:Nat)+(m.k:Nat))))
 else if QbV m.o=true then some (fnM M m.a (Qbu m.o (M.x.getD m.b 0) (if m.o<=13 then M.x.getD m.c 0 else m.k)) (w32 ((lpc M.pc m.n:Nat)+4)))
 else none
def QEF (p q:Nat):Prop:=q=p\/∃ ac,q=QbK p ac
structure Keep (E E1:Eg):Prop where
 (ok:E1.ok) (coh:Coh E1) (o:E1.o=E.o) (f:E1.f=E.f)
 (s0:E1.s=false->E.s=false/\(∀ j,j / 32=E.f->E1.M.m.getD j 0=E.M.m.getD j 0)/\∀ j,j / 32=cR E.M->QEF (E.M.m.getD j 0) (E1.M.m.getD j 0))
 (c:E1.M.c=E.M.c) (l:E1.M.m.length=E.M.m.length)
theorem QCQ (E:Eg) (va sz:Nat) (ac:Int) (gX:ZU va) (j:Nat):QEF (E.M.m.getD j 0) ((sM E va sz ac).getD j 0):=by grind [sM,rsM,Qa9,cR,Qij,List.set_eq_of_length_le,QeN,QEF]
theorem QqH {E:Eg} (hE:E.ok) (hC:Coh E):Keep E E:=⟨hE,hC,rfl,rfl,fun h=>⟨h,fun _ _=>rfl,fun _ _=> .inl rfl⟩,rfl,rfl⟩
theorem Qmw (E:Eg) (hE:E.ok) (hC:Coh E) (va sz:Nat) (ac:Int) (gX:ZU va) (qA:sz=1\/sz=4) (HC:ac=1\/ac=2\/ac=3):Keep E (rsv E va sz ac).1:=by
 have h:=QeX E hE hC va sz ac gX qA HC;refine ⟨h.ok,h.coh,h.o,h.f,fun hs=>⟨(h.s0 hs).1,(h.s0 hs).2,fun j hj=>?_⟩,by rw [h.m],by rw [h.m];exact Qbl _ _ _ _ _ _ _⟩;rw [h.m];exact QCQ E va sz ac gX j
theorem Qel {E E1:Eg} (h:Keep E E1) (a v pc:Nat) (hv:ZU v) (gR:ZU pc):Keep E (fnE E1 a v pc) :=
 ⟨QBU h.ok a v pc hv gR,QxJ h.coh a v pc,h.o,h.f,h.s0,h.c,h.l⟩
theorem Qx4 {E E1:Eg} (h:Keep E E1) (m:Mi) (a v:Nat) (hv:ZU v) (ha:a / 4<E1.M.m.length):Keep E (QhS E1 m a v):=by
 have yG:∀ j,j≠a / 4->(stM m.o E1.M.m a v).getD j 0=E1.M.m.getD j 0:=fun j hj=>by grind [stM,QeN,QnD,QhS]
 have hM:(QhS E1 m a v).M= { E1.M with m:=stM m.o E1.M.m a v }:=by unfold QhS;dsimp only;split<;>rfl
 refine ⟨QuT h.ok m a v hv,QuS h.ok h.coh m a v ha,?_,?_,fun hs=>?_,by rw [hM];exact h.c,by rw [hM];show (stM _ _ _ _).length=_;rw [Qcs];exact h.l⟩
 .unfold QhS;dsimp only;split<;>exact h.o
 .unfold QhS;dsimp only;split<;>exact h.f
 .have gO:¬ a / 128=cR E1.M/\E1.s=false/\¬ a / 128=E1.f:=by
   unfold QhS at hs;dsimp only at hs;split at hs
   .cases hs
   .rename_i hq
    change (E1.s||decide (a / 128=E1.f))=false at hs;rw [Bool.or_eq_false_iff,decide_eq_false_iff_not] at hs;exact ⟨hq,hs⟩
  obtain ⟨_,q2,q3⟩:=gO;obtain ⟨g1,g2,_⟩:=h.s0 q2;have hc:cR E1.M=cR E.M:=by unfold cR;rw [h.c]
  rw [hM];refine ⟨g1,fun j hj=>?_,fun j hj=>?_⟩
  .rw [<- g2 j hj]
   exact yG j (fun e=>q3 (by rw [h.f];omega))
  .grind
theorem Qp4 (E:Eg) (hE:E.ok) (hC:Coh E) (m:Mi) (hm:Qbq m) :
  ((exO E m).2=false->(exO E m).1=E/\opM E.M m=none)/\((exO E m).2=true->opM E.M m=some (exO E m).1.M/\Keep E (exO E m).1):=by
 obtain ⟨_,_,_,jD⟩:=hm;have hK:=QqH hE hC;have hx:=Qab hE.M.xr;unfold exO opM
 by_cases vF:m.o=24
 .rw [zP vF,zP vF]
  exact ⟨(fun h=>by cases h),fun _=>⟨rfl,Qel hK _ _ _ jD (QaG _)⟩⟩
 rw [zN vF,zN vF]
 by_cases h32:32<=m.o/\m.o<=34
 .rw [zP h32,zP h32]
  have h:=QeX E hE hC (vaM E.M m) (szO m.o) 2 (QaG _) (QhT _) (.inr (.inl rfl));have hk:=Qmw E hE hC (vaM E.M m) (szO m.o) 2 (QaG _) (QhT _) (.inr (.inl rfl));change _/\_;have hl:ldE E m=rsv E (vaM E.M m) (szO m.o) 2:=rfl;rw [hl];have hb:(rsv E (vaM E.M m) (szO m.o) 2).2.2=mO E.M (vaM E.M m) (szO m.o) 2:=h.b;rw [<- hb]
  cases hv:(rsv E (vaM E.M m) (szO m.o) 2).2.2 with
  | false=>grind
  | true =>
   rw [zP rfl,zP rfl];refine ⟨(fun h=>by cases h),fun _=>⟨?_,Qel hk _ _ _ (Qv0 _ _ _ h.ok.M.mr) (QaG _)⟩⟩;have ha:(rsv E (vaM E.M m) (szO m.o) 2).2.1=mA E.M (vaM E.M m) (szO m.o) 2:=h.a hv;have vH:(rsv E (vaM E.M m) (szO m.o) 2).1.M= { E.M with m:=mM E.M (vaM E.M m) (szO m.o) 2 }:=h.m;unfold fnE fnM;dsimp only;rw [ha,vH]
 rw [zN h32,zN h32]
 by_cases vG:m.o=35\/m.o=36
 .rw [zP vG,zP vG]
  have h:=QeX E hE hC (vaM E.M m) (szO m.o) 3 (QaG _) (QhT _) (.inr (.inr rfl));have hk:=Qmw E hE hC (vaM E.M m) (szO m.o) 3 (QaG _) (QhT _) (.inr (.inr rfl));have hl:stE E m=if (rsv E (vaM E.M m) (szO m.o) 3).2.2=true then (QhS (rsv E (vaM E.M m) (szO m.o) 3).1 m (rsv E (vaM E.M m) (szO m.o) 3).2.1 (E.M.x.getD m.a 0),true) else (E,false):=rfl
  have hb:(rsv E (vaM E.M m) (szO m.o) 3).2.2=mO E.M (vaM E.M m) (szO m.o) 3:=h.b;rw [<- hb]
  cases hv:(rsv E (vaM E.M m) (szO m.o) 3).2.2 with
  | false=>grind
  | true =>
   rw [hv,zP rfl] at hl;rw [hl,zP rfl,zP rfl];have qB:=h.in_ hv;refine ⟨(fun h=>by cases h),fun _=>⟨?_,Qel (Qx4 hk m _ _ (hx _) (by rw [hk.l];exact qB.1)) _ _ _ (by decide) (QaG _)⟩⟩;have ha:(rsv E (vaM E.M m) (szO m.o) 3).2.1=mA E.M (vaM E.M m) (szO m.o) 3:=h.a hv;have vH:(rsv E (vaM E.M m) (szO m.o) 3).1.M= { E.M with m:=mM E.M (vaM E.M m) (szO m.o) 3 }:=h.m;have hM:∀ (E1:Eg) (a v:Nat),(QhS E1 m a v).M= { E1.M with m:=stM m.o E1.M.m a v }:=fun E1 a v=>by unfold QhS;dsimp only;split<;>rfl
   unfold fnE fnM;dsimp only;rw [hM,ha,vH]
 rw [zN vG,zN vG]
 by_cases h40:40<=m.o/\m.o<=45
 .rw [zP h40,zP h40]
  refine ⟨(fun h=>by cases h),fun _=>⟨rfl,Qel hK _ _ _ (by decide) ?_⟩⟩;split<;>exact QaG _
 rw [zN h40,zN h40]
 by_cases h48:m.o=48
 .rw [zP h48,zP h48]
  exact ⟨(fun h=>by cases h),fun _=>⟨rfl,Qel hK _ _ _ (QaG _) (QaG _)⟩⟩
 rw [zN h48,zN h48]
 by_cases h49:m.o=49
 .rw [zP h49,zP h49]
  exact ⟨(fun h=>by cases h),fun _=>⟨rfl,Qel hK _ _ _ (QaG _) (QaG _)⟩⟩
 rw [zN h49,zN h49]
 by_cases gY:QbV m.o=true
 .rw [zP gY,zP gY]
  refine ⟨(fun h=>by cases h),fun _=>⟨rfl,Qel hK _ _ _ (Qc1 _ _ _ (hx _) ?_) (QaG _)⟩⟩;split
  .exact hx _
  .exact jD
 rw [zN gY,zN gY];exact ⟨fun _=>⟨rfl,rfl⟩,(fun h=>by cases h)⟩
theorem QeW (xs:List Nat) (n s r va:Nat) (sz ac:Int):rsK xs n s r va sz ac=0↔rsO xs n s r va sz ac=true:=by grind [rsK,rsO,Qcv]
theorem QHN (pc:Nat) (h:ZU pc):lpc pc 1=pc:=by
 unfold lpc w32;omega
theorem QFz (w:Nat) (hd:dOk w=true):(bM w).o=dOp w/\(bM w).a=nA w/\(bM w).b=nB w/\(bM w).c=nC w/\(bM w).n=1:=by
 obtain ⟨h1,_,h2,_,_,_⟩:=Qic w hd;exact ⟨rfl,by show (dA w).toNat=_;rw [h1];rfl,by show (dB w).toNat=_;rw [h2];rfl,rfl,rfl⟩
theorem QA8 (w:Nat) (h:dOp w=24):(bM w).k=w32 ((w32 (dM w):Nat)*65536):=by grind [trK,dOp,dM,w32,bM]
theorem QA9 (w:Nat) (h:40<=dOp w/\dOp w<=45\/dOp w=48):(bM w).k=w32 (4*(w32 (dM w):Nat)):=by
 show (trK (dOp w) (dM w)).toNat=_;unfold trK w32;rw [zN (by omega),zP h];omega
theorem Qs1 (w:Nat) (h:dOp w≠24) (h2:¬ (40<=dOp w/\dOp w<=45\/dOp w=48)):(bM w).k=w32 (dM w):=by grind [trK,dOp,dM,w32,bM]
theorem QDe (o:Int):wd o=((szO o:Nat):Int):=by unfold wd szO;split<;>rfl
theorem Qp2 (x:List Nat) (o:Int) (A:Nat) (m:Int) (h:o<=59):eK (exE x o A m)=0:=by
 unfold exE;rw [zN (by omega),zN (by omega),zN (by omega),zN (by omega),zN (by omega)];rfl
theorem QAW (M:Mc) (hM:M.ok) (hi:QcY M=false) (uK:M.wt=false) (hf:mO M M.pc 4 1=true) (hk:mM M M.pc 4 1=M.m) (w:Nat) (hw:M.m.getD (mA M M.pc 4 1 / 4) 0=w) (hd:dOk w=true) (M':Mc) (h:opM M (bM w)=some M') :
  Qbh M 0=(Qdc M',none):=by
 have hP:Qde M=M.pc:=by unfold Qde;rw [hi,zN (by decide)]
 have hC:Qdd M=M.c:=by unfold Qdd;rw [hi,zN (by decide)]
 have UE:rsK M.m M.m.length (M.c.getD 0 0) (M.c.getD 6 0) M.pc 4 1=0:=(QeW _ _ _ _ _ _ _).2 hf
 have yQ:ftW M.m M.m.length (M.c.getD 0 0) (M.c.getD 6 0) M.pc=w:=by
  unfold ftW;rw [zP UE];change (mM M M.pc 4 1).getD (mA M M.pc 4 1 / 4) 0=w;rw [hk];exact hw
 have hrm:rsM M.m M.m.length (M.c.getD 0 0) (M.c.getD 6 0) M.pc 4 1=M.m:=hk;obtain ⟨b1,b2,b3,b4,b5⟩:=QFz w hd;have hl:=QHN M.pc hM.pr;have hrng:=(Qic w hd).2.2.2.2.2.2.2.2
 have key:∀ (Q:Ex),exS M.x M.pc M.c M.m M.m.length=Q->eK Q.e=0->Q.c=M.c->M'= { M with x:=Q.x,pc:=Q.pc,m:=Q.m }->Qbh M 0=(Qdc M',none):=fun Q h1 h2 h3 h4=>by
  have hq:QaI M=Q:=by unfold QaI;rw [hP,hC];exact h1
  unfold Qbh QaF;rw [hq,h2,zN (by decide),zN (by decide),zN (by decide),zN (by decide),h4,h3];obtain ⟨x,pc,c,m,_,_,_,_,_,_,_,_,_,wt⟩:=M;dsimp only at uK |-;subst uK;rfl
 unfold opM at h;rw [b1,b2,b3,b4,b5,hl] at h
 have vX:∀ (qH:¬ (57<=dOp w/\M.c.getD 0 0%2=0)),exS M.x M.pc M.c M.m M.m.length =
   if 32<=dOp w/\dOp w<=34 then
    ⟨ldX M.x M.m M.m.length (M.c.getD 0 0) (M.c.getD 6 0) (vaO M.x (nB w) (dM w)) (dOp w) (nA w),
     trP M.pc M.c (rsK M.m M.m.length (M.c.getD 0 0) (M.c.getD 6 0) (vaO M.x (nB w) (dM w)) (wd (dOp w)) 2),
     trC M.pc M.c (rsK M.m M.m.length (M.c.getD 0 0) (M.c.getD 6 0) (vaO M.x (nB w) (dM w)) (wd (dOp w)) 2) (vaO M.x (nB w) (dM w)),
     rsM M.m M.m.length (M.c.getD 0 0) (M.c.getD 6 0) (vaO M.x (nB w) (dM w)) (wd (dOp w)) 2,E0⟩
   else if 35<=dOp w/\dOp w<=36 then
    ⟨M.x,trP M.pc M.c (rsK M.m M.m.length (M.c.getD 0 0) (M.c.getD 6 0) (vaO M.x (nB w) (dM w)) (wd (dOp w)) 3),
     trC M.pc M.c (rsK M.m M.m.length (M.c.getD 0 0) (M.c.getD 6 0) (vaO M.x (nB w) (dM w)) (wd (dOp w)) 3) (vaO M.x (nB w) (dM w)),
     stX M.m M.m.length (M.c.getD 0 0) (M.c.getD 6 0) (vaO M.x (nB w) (dM w)) (M.x.getD (nA w) 0) (dOp w),E0⟩
   else ⟨exX M.x M.pc M.c (dOp w) (nA w) (nB w) (nC w) (dM w),exP M.x M.pc M.c (dOp w) (nA w) (nB w) (dM w),exC M.x M.pc M.c (dOp w) (nA w) (dM w),M.m,exE M.x (dOp w) (nA w) (dM w)⟩:=fun qH=>by
  unfold exS;rw [zN (by rw [UE];decide),yQ,zN (by rw [hd];decide),zN qH,hrm]
 by_cases vF:dOp w=24
 .rw [zP vF] at h
  injection h with h
  refine key _ (vX (by omega)) ?_ ?_ ?_
  .grind [Qp2,QcY,mO,mM,mA,dOk,opM,bM]
  .grind [exC,QcY,mO,mM,mA,dOk,opM,bM]
  .grind [QA8,fnM,exX,exP,QcY,mO,mM,mA]
 rw [zN vF] at h
 by_cases h32:32<=dOp w/\dOp w<=34
 .rw [zP h32] at h
  have gX:vaM M (bM w)=vaO M.x (nB w) (dM w):=by unfold vaM vaO;rw [b3,Qs1 w vF (by omega)]
  rw [gX] at h;unfold mO mA mM cR at h;rw [<- QDe] at h;split at h
  .rename_i ho
   injection h with h
   have hz:=(QeW _ _ _ _ _ _ _).2 ho;refine key _ (vX (by omega)) ?_ ?_ ?_
   .rw [zP h32];rfl
   .grind [trC,QcY,mO,mM,mA,dOk,opM,bM]
   .grind [fnM,ldX,trP,QcY,mO,mM,mA,dOk]
  .cases h
 rw [zN h32] at h
 by_cases vG:dOp w=35\/dOp w=36
 .rw [zP vG] at h
  have gX:vaM M (bM w)=vaO M.x (nB w) (dM w):=by unfold vaM vaO;rw [b3,Qs1 w vF (by omega)]
  rw [gX] at h;unfold mO mA mM cR at h;rw [<- QDe] at h;split at h
  .rename_i ho
   injection h with h
   have hz:=(QeW _ _ _ _ _ _ _).2 ho;refine key _ (vX (by omega)) ?_ ?_ ?_
   .rw [zN h32,zP (by omega)];rfl
   .grind [trC,QcY,mO,mM,mA,dOk,opM,bM]
   .rw [zN h32,zP (by omega),<- h]
    unfold fnM stX trP;dsimp only;rw [hz,zP rfl,zP rfl];rfl
  .cases h
 rw [zN vG] at h;have hexc:dOp w≠56->dOp w≠57->dOp w≠59->exC M.x M.pc M.c (dOp w) (nA w) (dM w)=M.c:=fun q1 q2 q3=>by unfold exC;rw [zN q1,zN q2,zN q3]
 by_cases h40:40<=dOp w/\dOp w<=45
 .rw [zP h40] at h
  injection h with h
  refine key _ (vX (by omega)) ?_ ?_ ?_
  .grind [Qp2,QcY,mO,mM,mA,dOk,opM,bM]
  .grind
  .rw [zN h32,zN (by omega),<- h,QA9 w (.inl h40)]
   have e1:exX M.x M.pc M.c (dOp w) (nA w) (nB w) (nC w) (dM w)=M.x:=QcO;have e2:exP M.x M.pc M.c (dOp w) (nA w) (nB w) (dM w)=if Qdk (dOp w) (M.x.getD (nA w) 0) (M.x.getD (nB w) 0)=true then w32 ((M.pc:Int)+w32 (4*(w32 (dM w):Nat))) else w32 ((M.pc:Int)+4):=by unfold exP;rw [zP h40]
   dsimp only;rw [e1,e2];rfl
 rw [zN h40] at h
 by_cases h48:dOp w=48
 .grind [Qp2,QA9,fnM,exX,exP,QcY,mO,mM]
 rw [zN h48] at h
 by_cases h49:dOp w=49
 .grind [Qp2,Qs1,fnM,exX,exP,QcY,mO,mM]
 rw [zN h49] at h
 by_cases gY:QbV (dOp w)=true
 .grind [dOp,QbV,Qp2,Qs1,fnM,exX,exP,QcY]
 rw [zN gY] at h;cases h
theorem Qgo (o:Int):QbV o=true↔(1<=o/\o<=13\/16<=o/\o<=23):=by unfold QbV;rw [zde]
theorem Qfc (o:Int) (h:Qei o≠0):o=1\/o=2\/o=3\/o=4\/o=5\/o=6\/o=7\/o=8\/o=12:=by grind [Qei]
theorem QtW (o:Int) (h:Qei o≠0) (p q:Nat) (hp:ZU p) (hq:ZU q):Qbu (Qei o) p (if o=2 then (4294967296-q)%4294967296 else q)=Qbu o p q:=by
 rcases Qfc o h with e|e|e|e|e|e|e|e|e<;>subst e
 .rfl
 .grind [Qhu,Qei,Qbu]
 all_goals (rw [zN (by omega)];rfl)
theorem QxU (o:Int) (h:Qei o≠0):16<=Qei o/\Qei o<=23:=by
 rcases Qfc o h with e|e|e|e|e|e|e|e|e<;>subst e<;>decide
theorem QC2 (o:Int) (a b:Nat) (ha:ZU a) (hb:ZU b):QAJ o a b=Qdk o a b:=by
 unfold QAJ Qdk;rw [QbX a ha,QbX b hb]
 by_cases h0:o=40
 .rw [zP h0,zP h0,zbi];simp;omega
 rw [zN h0,zN h0]
 by_cases h1:o=41
 .rw [zP h1,zP h1,zbi];simp;omega
 rw [zN h1,zN h1]
 by_cases h2:o=42
 .grind
 rw [zN h2,zN h2]
 by_cases h3:o=43
 .grind
 rw [zN h3,zN h3]
 by_cases h4:o=44
 .simp_all
 rw [zN h4,zN h4,zbi];simp
def opT (x c m:List Nat) (P:Nat) (o:Mi):Option (List Nat × Nat × List Nat) :=
 if o.o=24 then some (QaD x o.a o.k,w32 ((P:Nat)+4),m)
 else if 32<=o.o/\o.o<=34 then
  (if rsO m m.length (c.getD 0 0) (c.getD 6 0) (w32 ((x.getD o.b 0:Nat)+(o.k:Nat))) (szO o.o) 2=true then some (QaD x o.a (ldV o.o (rsM m m.length (c.getD 0 0) (c.getD 6 0) (w32 ((x.getD o.b 0:Nat)+(o.k:Nat))) (szO o.o) 2) (rsA m m.length (c.getD 0 0) (c.getD 6 0) (w32 ((x.getD o.b 0:Nat)+(o.k:Nat))) (szO o.o) 2)),w32 ((P:Nat)+4),rsM m m.length (c.getD 0 0) (c.getD 6 0) (w32 ((x.getD o.b 0:Nat)+(o.k:Nat))) (szO o.o) 2) else none)
 else if o.o=35\/o.o=36 then
  (if rsO m m.length (c.getD 0 0) (c.getD 6 0) (w32 ((x.getD o.b 0:Nat)+(o.k:Nat))) (szO o.o) 3=true then some (x,w32 ((P:Nat)+4),stM o.o (rsM m m.length (c.getD 0 0) (c.getD 6 0) (w32 ((x.getD o.b 0:Nat)+(o.k:Nat))) (szO o.o) 3) (rsA m m.length (c.getD 0 0) (c.getD 6 0) (w32 ((x.getD o.b 0:Nat)+(o.k:Nat))) (szO o.o) 3) (x.getD o.a 0)) else none)
 else if 40<=o.o/\o.o<=45 then
  some (x,(if Qdk o.o (x.getD o.a 0) (x.getD o.b 0)=true then w32 ((P:Nat)+(o.k:Nat)) else w32 ((P:Nat)+4)),m)
 else if o.o=48 then some (QaD x o.a (w32 ((P:Nat)+4)),w32 ((P:Nat)+(o.k:Nat)),m)
 else if o.o=49 then some (QaD x o.a (w32 ((P:Nat)+4)),w32 ((x.getD o.b 0:Nat)+(o.k:Nat)),m)
 else if QbV o.o=true then some (QaD x o.a (Qbu o.o (x.getD o.b 0) (if o.o<=13 then x.getD o.c 0 else o.k)),w32 ((P:Nat)+4),m)
 else none
def pvT (M:Mc) (r:List Nat × Nat × List Nat):Mc:= { M with x:=r.1,pc:=r.2.1,m:=r.2.2 }
theorem QCT (x:List Nat) (v:Nat):QaD x 0 v=x:=zP rfl
theorem QCl (M:Mc) (o:Mi):opM M o=(opT M.x M.c M.m (lpc M.pc o.n) o).map (pvT M):=by
 unfold opM opT
 repeat' split
 all_goals first|rfl|contradiction
theorem QCq {x c m:List Nat} {P:Nat} {o:Mi} {r:List Nat × Nat × List Nat} (h:opT x c m P o=some r):∃ v,r.1=QaD x (if QlW o.o=true then o.a else 0) v/\(o.o=24->v=o.k):=by
 unfold opT at h;have hT:(QlW o.o=true)->∀ v,r.1=QaD x o.a v->(o.o=24->v=o.k)->∃ v,r.1=QaD x (if QlW o.o=true then o.a else 0) v/\(o.o=24->v=o.k):=fun hb v h1 h2=>⟨v,by rw [zP hb];exact h1,h2⟩
 have hF:(QlW o.o=false)->o.o≠24->r.1=x->∃ v,r.1=QaD x (if QlW o.o=true then o.a else 0) v/\(o.o=24->v=o.k):=fun hb h2 h1=>⟨0,by rw [hb,zN (by decide)];exact h1,fun h=>absurd h h2⟩
 have hW:QlW o.o=(decide (o.o=24\/32<=o.o/\o.o<=34\/o.o=48\/o.o=49\/o.o=58\/o.o=60)||QbV o.o):=rfl;have hA:QbV o.o=decide (1<=o.o/\o.o<=13\/16<=o.o/\o.o<=23):=rfl
 by_cases vF:o.o=24
 .grind
 rw [zN vF] at h
 by_cases h32:32<=o.o/\o.o<=34
 .grind
 rw [zN h32] at h
 by_cases vG:o.o=35\/o.o=36
 .grind
 rw [zN vG] at h
 by_cases h40:40<=o.o/\o.o<=45
 .grind
 rw [zN h40] at h
 by_cases h48:o.o=48
 .grind
 rw [zN h48] at h
 by_cases h49:o.o=49
 .grind
 rw [zN h49] at h
 by_cases gY:QbV o.o=true
 .grind
 rw [zN gY] at h;cases h
theorem QCo {x c m:List Nat} {P:Nat} {o:Mi} {r:List Nat × Nat × List Nat} (h:opT x c m P o=some r) (he:Qco o.o=false):r.2.1=w32 ((P:Nat)+4):=by grind [opT,QbV,Qco,w32]
def QkE (is:List Bool) (v x:List Nat):Prop:=∀ r,r<16->is.getD r false=true->x.getD r 0=v.getD r 0
theorem QeM {α:Type} (l:List α) (i j:Nat) (x d:α) (h:i<l.length):(l.set i x).getD j d=if j=i then x else l.getD j d:=by grind
theorem Qjj {is:List Bool} {v x c m:List Nat} {P:Nat} {o:Mi} {r:List Nat × Nat × List Nat} (hi:is.length=16) (hv:v.length=16) (hx:x.length=16) (ha:o.a<16) (hc:QkE is v x) (h:opT x c m P o=some r):QkE (QfM o.o o.a is) (Qe8 o.o o.a o.k v) r.1:=by grind [QCq,QfM,Qe8,QlW,QCT,QaD,QeM,QkE,opT]
theorem QCp (x c m:List Nat) (P:Nat) (o:Mi) (is:List Bool) (v:List Nat) (hok:Qbq o) (hx:ZL x) (h0:x.getD 0 0=0) (hc:QkE is v x):opT x c m P (Qa6 o is v)=opT x c m P o:=by
 have g:=QgH hx;have gb:=g o.b;have gc:=g o.c;have ga:=g o.a;unfold Qa6
 by_cases hm:32<=o.o/\o.o<=36
 .rw [zP hm]
  split
  .rename_i hk
   have hb:=hc o.b hok.2.1 hk.1
   have gX:w32 ((x.getD 0 0:Nat)+(((o.k+v.getD o.b 0)%4294967296:Nat):Int))=w32 ((x.getD o.b 0:Nat)+(o.k:Nat)):=by
    rw [h0,hb];unfold w32;omega
   unfold opT;dsimp only;rw [gX]
   by_cases h34:o.o<=34
   .grind
   .grind
  .rfl
 rw [zN hm]
 by_cases hbr:40<=o.o/\o.o<=45
 .rw [zP hbr]
  split
  .rename_i hk
   have e1:=hc o.a hok.1 hk.1;have e2:=hc o.b hok.2.1 hk.2;rw [<- e1,<- e2,QC2 _ _ _ ga gb];have hL:∀ k,opT x c m P ⟨48,0,0,0,k,o.n⟩=some (x,w32 ((P:Nat)+(k:Nat)),m):=fun k=>rfl
   have hR:opT x c m P o=some (x,(if Qdk o.o (x.getD o.a 0) (x.getD o.b 0)=true then w32 ((P:Nat)+(o.k:Nat)) else w32 ((P:Nat)+4)),m):=by
    unfold opT;rw [zN (show ¬ o.o=24 by omega),zN (show ¬ (32<=o.o/\o.o<=34) by omega),zN (show ¬ (o.o=35\/o.o=36) by omega),zP hbr]
   rw [hL,hR];cases Qdk o.o (x.getD o.a 0) (x.getD o.b 0)<;>rfl
  .rfl
 rw [zN hbr]
 by_cases gY:QbV o.o=false
 .grind
 rw [zN gY];have gY:QbV o.o=true:=by cases h:QbV o.o with|true=>rfl|false=>exact absurd h gY
 have vN:=(Qgo _).1 gY
 have hR:opT x c m P o=some (QaD x o.a (Qbu o.o (x.getD o.b 0) (if o.o<=13 then x.getD o.c 0 else o.k)),w32 ((P:Nat)+4),m):=by
  unfold opT;rw [zN (by omega),zN (by omega),zN (by omega),zN (by omega),zN (by omega),zN (by omega),zP gY]
 have ht:(QkD o.o=true)=(o.o<=13):=by unfold QkD;rw [zde];exact propext ⟨fun h=>h.2,fun h=>⟨by omega,h⟩⟩
 split
 .rename_i hk
  rw [hR];have e1:=hc o.b hok.2.1 hk.1;have hL:∀ k,opT x c m P ⟨24,o.a,0,0,k,o.n⟩=some (QaD x o.a k,w32 ((P:Nat)+4),m):=fun k=>rfl
  show opT x c m P ⟨24,o.a,0,0,_,o.n⟩=_;rw [hL,<- e1]
  by_cases h3:o.o<=13
  .simp_all [QkD,Qbq,h0,QkE,opT,Qa6]
  .grind
 .split
  .rename_i hi
   have zL:=QxU o.o hi.1;have h3:o.o<=13:=by have:=Qfc o.o hi.1;omega
   rw [hR,zP h3];have e1:=hc o.c hok.2.2.1 hi.2;rw [<- e1]
   have hL:∀ k,opT x c m P ⟨Qei o.o,o.a,o.b,0,k,o.n⟩=some (QaD x o.a (Qbu (Qei o.o) (x.getD o.b 0) k),w32 ((P:Nat)+4),m):=fun k=>by
    unfold opT;dsimp only;rw [zN (by omega),zN (by omega),zN (by omega),zN (by omega),zN (by omega),zN (by omega),zP ((Qgo _).2 (.inr zL)),zN (show ¬ Qei o.o<=13 by omega)]
   show opT x c m P ⟨Qei o.o,o.a,o.b,0,_,o.n⟩=_;rw [hL,QtW o.o hi.1 _ _ gb gc]
  .rfl
structure Ftc (M:Mc) (pc q:Nat):Prop where
 (o:mO M pc 4 1=true) (a:mA M pc 4 1=4*q) (k:mM M pc 4 1=M.m)
theorem Qii {M:Mc} {pc q:Nat} (hn:mpg M.m.length*32=M.m.length) (hp:ZU pc) (h:Ftc M pc q) (hq:q%32<31) (gI:M.m.length<=1000000):Ftc M (pc+4) (q+1)/\pc+4<4294967296:=by
 obtain ⟨o,a,k⟩:=h;unfold mO at o;unfold mA rsA at a;rw [zP o] at a;unfold mM rsM at k;have o0:=o;unfold rsO at o;simp only [zba,zde] at o;obtain ⟨⟨⟨o1,o2⟩,_⟩,o4⟩:=o;have h4:pc%4=0:=by omega
 have h4':((pc+4:Nat):Int)%((4:Nat):Int)=0:=by omega
 by_cases qE:Qdf (M.c.getD 0 0)=true
 .rw [zP qE] at o4 a
  rw [zP ⟨o0,qE⟩] at k;have e1:(pc+4) / 128=pc / 128:=by omega
  have hW:QaR M.m (cR M) (pc+4)=QaR M.m (cR M) pc:=by unfold QaR;rw [e1]
  have hE:Qa9 (cR M) (pc+4)=Qa9 (cR M) pc:=by unfold Qa9;rw [e1]
  have o5:=o4;unfold Qbo at o4;simp only [zba,zde] at o4;have gU:=o4.1.1.1.2
  have o6:Qbo M.m M.m.length (cR M) (pc+4) 1=true:=by
   unfold Qbo at o5 |-;rw [hW];simp only [zba,zde] at o5 |-;exact ⟨⟨⟨⟨o5.1.1.1.1,by omega⟩,o5.1.1.2⟩,o5.1.2⟩,o5.2⟩
  have o7:rsO M.m M.m.length (M.c.getD 0 0) (cR M) (pc+4) ((4:Nat):Int) 1=true:=by
   unfold rsO;rw [o1,o2,zdt h4',zP qE,o6];rfl
  refine ⟨⟨o7,?_,?_⟩,by omega⟩
  .unfold mA rsA
   rw [zP o7,zP qE,hW];omega
  .unfold mM rsM
   rw [zP ⟨o7,qE⟩,hE];exact k
 .rw [zN qE] at o4 a
  unfold acB at o4;rw [zP (by omega)] at o4
  have h5:(pc+4)<4*M.m.length:=by
   unfold ld4 at o4;simp only [zba,zde] at o4;omega
  have o6:ld4 M.m.length (pc+4)=true:=by
   unfold ld4;simp only [zba,zde];omega
  have o7:rsO M.m M.m.length (M.c.getD 0 0) (cR M) (pc+4) ((4:Nat):Int) 1=true:=by
   unfold rsO acB;rw [o1,o2,zdt h4',zN qE,zP (by omega),o6];rfl
  refine ⟨⟨o7,?_,?_⟩,by omega⟩
  .unfold mA rsA
   rw [zP o7,zN qE];omega
  .unfold mM rsM
   rw [zN (fun h=>qE h.2)]
theorem or8 (p:Nat):(p ||| 8) ||| 8=p ||| 8:=by rw [Nat.or_assoc];rfl
theorem Qsf (p:Nat) (ac:Int):QbK (QbK p ac) 1=QbK p ac:=by grind [QbK,or8]
theorem QGp (p k b:Nat) (h:k &&& b=0):(p ||| k) &&& b=p &&& b:=by grind
theorem Qv7 (p:Nat) (ac a:Int):pmW (QbK p ac) a=pmW p a:=by grind [pmW,QbK,QGp]
theorem QrZ (l:List Nat) (j:Nat):l.set j (l.getD j 0)=l:=by
 apply List.ext_getElem?;intro i;rw [List.getElem?_set];split
 .grind
 .rfl
theorem QxP {M:Mc} {pc q:Nat} {m1:List Nat} (hn:mpg M.m.length*32=M.m.length) (hl:m1.length=M.m.length) (hp:∀ j,j / 32=cR M->QEF (M.m.getD j 0) (m1.getD j 0)) (h:Ftc M pc q):Ftc { M with m:=m1 } pc q:=by
 obtain ⟨o,a,k⟩:=h;unfold mO at o;unfold mA rsA at a;rw [zP o] at a;unfold mM rsM at k;have o0:=o;unfold rsO at o;simp only [zba,zde] at o;obtain ⟨⟨⟨o1,o2⟩,o3⟩,o4⟩:=o
 by_cases qE:Qdf (M.c.getD 0 0)=true
 .rw [zP qE] at o4 a
  rw [zP ⟨o0,qE⟩] at k;unfold Qbo at o4;simp only [zba,zde] at o4;obtain ⟨⟨⟨⟨_,w2⟩,w3⟩,w4⟩,w5⟩:=o4;have hj:=hp (cR M*32+pc / 128) (by omega);have yL:cR M*32+pc / 128<M.m.length:=by omega
  have e4:Qa9 (cR M) pc / 4=cR M*32+pc / 128:=by unfold Qa9;omega
  rw [e4] at k;have kt:QbK (M.m.getD (cR M*32+pc / 128) 0) 1=M.m.getD (cR M*32+pc / 128) 0:=by grind
  have hq:pmW (m1.getD (cR M*32+pc / 128) 0) 1=pmW (M.m.getD (cR M*32+pc / 128) 0) 1/\frW (m1.getD (cR M*32+pc / 128) 0)=frW (M.m.getD (cR M*32+pc / 128) 0)/\QbK (m1.getD (cR M*32+pc / 128) 0) 1=m1.getD (cR M*32+pc / 128) 0:=by
   rcases hj with hj|⟨ac,hj⟩
   .grind
   .rw [hj];exact ⟨Qv7 _ _ _,Qih _ _,Qsf _ _⟩
  obtain ⟨q1,q2,q3⟩:=hq
  have o7:rsO m1 m1.length (M.c.getD 0 0) (cR M) pc ((4:Nat):Int) 1=true:=by
   unfold rsO Qbo QaR;rw [o1,o2,zdt o3,zP qE,q1,q2,hl,zdt w2,zdt w3];unfold QaR at w4 w5;rw [w4,zdt w5];rfl
  refine ⟨o7,?_,?_⟩
  .show rsA m1 m1.length (M.c.getD 0 0) (cR M) pc ((4:Nat):Int) 1=_
   unfold rsA;rw [zP o7,zP qE];unfold QaR at a |-;rw [q2];exact a
  .show rsM m1 m1.length (M.c.getD 0 0) (cR M) pc ((4:Nat):Int) 1=m1
   unfold rsM;rw [zP ⟨o7,qE⟩,e4,q3];exact QrZ _ _
 .rw [zN qE] at o4 a
  have o7:rsO m1 m1.length (M.c.getD 0 0) (cR M) pc ((4:Nat):Int) 1=true:=by
   unfold rsO;rw [o1,o2,zdt o3,zN qE,hl,o4];rfl
  refine ⟨o7,?_,?_⟩
  .show rsA m1 m1.length (M.c.getD 0 0) (cR M) pc ((4:Nat):Int) 1=_
   unfold rsA;rw [zP o7,zN qE];exact a
  .show rsM m1 m1.length (M.c.getD 0 0) (cR M) pc ((4:Nat):Int) 1=m1
   unfold rsM;rw [zN (fun h=>qE h.2)]
def Qhe:Nat->Mc->Mc->Prop
 | 0,M,M'=>M=M'
 | k+1,M,M'=>∃ M1,Qb3 M=false/\Qd5 M=false/\Qbh M 0=(M1,none)/\Qhe k M1 M'
theorem QdU:∀ {k:Nat} {j:Nat} {M M1 M2:Mc},Qhe k M M1->Qhe j M1 M2->Qhe (k+j) M M2
 | 0,j,M,M1,M2,h,g=>by
  have h:M=M1:=h;subst h;rw [Nat.zero_add];exact g
 | k+1,j,M,M1,M2,h,g=>by
  obtain ⟨N,h1,h2,h3,h4⟩:=h;rw [show k+1+j=(k+j)+1 by omega];exact ⟨N,h1,h2,h3,QdU h4 g⟩
theorem QuF {M M1:Mc} (h1:Qb3 M=false) (h2:Qd5 M=false) (h3:Qbh M 0=(M1,none)):Qhe 1 M M1:=⟨M1,h1,h2,h3,rfl⟩
theorem QqU (M:Mc) (x m:List Nat) (pc ct:Nat) (h:Qbg M=true) (hx:x.getD 0 0=0) (hl:m.length=M.m.length) (hc:ct<=1152921504606846976):Qbg { M with x:=x,pc:=pc,m:=m,ct:=ct }=true:=by
 unfold Qbg at h |-;rw [zde] at h |-;obtain ⟨h1,_,h3,h4,h5,h6,h7,h8,h9,jW,yN,_,WY⟩:=h;dsimp only;rw [hl];exact ⟨h1,hx,h3,h4,h5,h6,h7,h8,h9,jW,yN,hc,WY⟩
theorem QrY (x:List Nat) (a v:Nat) (h:x.getD 0 0=0):(QaD x a v).getD 0 0=0:=by grind [QaD,QeN]
theorem QGL {M:Mc} (h1:Qbg M=true) (h2:M.ht=false) (h3:M.wt=false) (h4:M.ct<1152921504606846976):Qb3 M=false:=by grind [Qb3,Qhk,Qbg]
theorem QCn (x c m:List Nat) (P:Nat) (o:Mi) (h:o.o=60):opT x c m P o=none:=by grind [opT,QbV]
theorem QGj {M:Mc} (hM:M.ok) (h1:Qbg M=true) (h2:M.ht=false) (h3:M.wt=false) (h4:M.ct<1152921504606846976) (hi:QcY M=false) {q w:Nat} (F:Ftc M M.pc q) (hw:M.m.getD q 0=w) (hd:dOk w=true) {r:List Nat × Nat × List Nat} (h:opT M.x M.c M.m M.pc (bM w)=some r) :
  Qb3 M=false/\Qd5 M=false/\Qbh M 0=(Qdc (pvT M r),none):=by
 obtain ⟨o,a,k⟩:=F;refine ⟨QGL h1 h2 h3 h4,?_,?_⟩
 .unfold Qd5
  have:QmH M=false:=by
   unfold QmH QnJ;have hC:Qdd M=M.c:=by unfold Qdd;rw [hi,zN (by decide)]
   have hP:Qde M=M.pc:=by unfold Qde;rw [hi,zN (by decide)]
   rw [hC,hP]
   by_cases hk:M.c.getD 0 0%2=1
   .grind [Qdf,mO,mA,rsA,dOp,QCn,bM,Qbg]
   .grind
  rw [this,Bool.and_false]
 .refine QAW M hM hi h3 o k w (by rw [a,show 4*q / 4=q by omega];exact hw) hd _ ?_
  rw [QCl,(QFz w hd).2.2.2.2,QHN M.pc hM.pr,h];rfl
theorem QCr (m:Mi) (l:List Mi) (lim d:Nat) (E:Eg):QfQ (m::l) lim d E=if lim-d<m.n.toNat then (E,d) else if (exO E m).2=false then (E,d) else if (exO E m).1.s=true then (ctE m.n.toNat (exO E m).1,d+m.n.toNat) else QfQ l lim (d+m.n.toNat) (ctE m.n.toNat (exO E m).1):=rfl
def Qou (M:Mc) (x:List Nat) (p:Nat):Mc:= { M with x:=x,pc:=M.pc+4*p,ct:=M.ct+p }
structure Bs (X:List Nat) (f q p:Nat) (x:List Nat) (E:Eg):Prop where
 (ok:E.ok) (coh:Coh E) (s:E.s=false) (fr:E.f=f) (may:Qbg E.M=true) (ht:E.M.ht=false) (wt:E.M.wt=false) (int:QcY E.M=false)
 (wd:∀ j,j / 32=f->E.M.m.getD j 0=X.getD j 0) (pc:E.M.pc+4*p<4294967296) (ft:Ftc E.M (E.M.pc+4*p) q)
 (x16:x.length=16) (xr:ZL x) (x0:x.getD 0 0=0)
structure Dn (lim d:Nat) (E:Eg) (R:Eg × Nat):Prop where
 (le:d<=R.2) (li:R.2<=lim) (run:Qhe (R.2-d) E.M R.1.M) (ok:R.1.ok) (coh:Coh R.1) (o:R.1.o=E.o)
theorem Qpp {lim d:Nat} {E:Eg} (h:d<=lim) (hE:E.ok) (hC:Coh E):Dn lim d E (E,d):=⟨Nat.le_refl _,h,by show Qhe (d-d) _ _;rw [Nat.sub_self];rfl,hE,hC,rfl⟩
theorem QoU {X:List Nat} {f q p:Nat} {x:List Nat} {E:Eg} (h:Bs X f q p x E) (hq:q / 32=f) (fM:E.M.ct+p<1152921504606846976) (hd:dOk (X.getD q 0)=true) {r:List Nat × Nat × List Nat} (hr:opT x E.M.c E.M.m (E.M.pc+4*p) (bM (X.getD q 0))=some r) :
  Qhe 1 (Qou E.M x p) { E.M with x:=r.1,pc:=r.2.1,m:=r.2.2,ct:=E.M.ct+p+1 }:=by
 have hok:(Qou E.M x p).ok:=by
  obtain ⟨_,a2,_,a4,_,a6,a7,a8,a9,b1,b2,b3,_,b5⟩:=h.ok.M;exact ⟨h.x16,a2,h.xr,a4,h.pc,a6,a7,a8,a9,b1,b2,b3,by show E.M.ct+p<_;omega,b5⟩
 have qW:Qbg (Qou E.M x p)=true:=QqU E.M x E.M.m _ _ h.may h.x0 rfl (by omega);obtain ⟨g1,g2,g3⟩:=QGj (M:=Qou E.M x p) hok qW h.ht h.wt fM h.int (q:=q) (w:=X.getD q 0) ⟨h.ft.o,h.ft.a,h.ft.k⟩ (h.wd q hq) hd hr;refine QuF g1 g2 ?_;rw [g3];unfold Qdc pvT Qou;dsimp only;rw [Nat.mod_eq_of_lt (show E.M.ct+p+1<18446744073709551616 by omega)]
theorem QmT (x:List Nat) (a u v:Nat):QaD (QaD x a u) a v=QaD x a v:=by grind [QaD,List.set_set]
theorem Qv5 {x c m:List Nat} {P:Nat} {o:Mi} (h:o.o=24):opT x c m P o=some (QaD x o.a o.k,w32 ((P:Nat)+4),m):=by
 unfold opT;rw [zP h]
theorem QwP {X:List Nat} {f q p n:Nat} {x:List Nat} {E E1:Eg} (h:Bs X f q p x E) (hq:q / 32=f) (GX:q%32<31) (hK:Keep E E1) (hs:E1.s=false) {r:List Nat × Nat × List Nat} (hM:E1.M=pvT E.M r) (gR:r.2.1=E.M.pc+4*p+4) (hr0:r.1.getD 0 0=0) (fM:(E1.M.ct+n)<=1152921504606846976) :
  Bs X f (q+1) 0 r.1 (ctE n E1):=by
 obtain ⟨_,k2,k3⟩:=hK.s0 hs;have gI:=h.ok.M.ml;obtain ⟨F,_⟩:=Qii h.coh.n h.pc h.ft GX (by omega);have hm:E1.M.m=r.2.2:=by rw [hM];rfl
 have hl:r.2.2.length=E.M.m.length:=by rw [<- hm];exact hK.l
 have F2:=QxP (m1:=r.2.2) h.coh.n hl (by rw [<- hm];exact k3) F;have hX:E1.M.x=r.1:=by rw [hM];rfl
 have hP:E1.M.pc=r.2.1:=by rw [hM];rfl
 have hC:E1.M.ct=E.M.ct:=by rw [hM];rfl
 refine ⟨QhB hK.ok n,Qgz hK.coh n,hs,hK.f.trans h.fr,?_,?_,?_,?_,fun j hj=>?_,?_,?_,?_,?_,hr0⟩
 .show Qbg { E1.M with ct:=(E1.M.ct+n)%18446744073709551616 }=true
  rw [Nat.mod_eq_of_lt (by omega),hC,hM];exact QqU E.M r.1 r.2.2 r.2.1 _ h.may hr0 hl (by omega)
 .show E1.M.ht=false;rw [hM];exact h.ht
 .show E1.M.wt=false;rw [hM];exact h.wt
 .show QcY { E1.M with ct:=_ }=false
  rw [hM];exact h.int
 .show E1.M.m.getD j 0=_
  rw [k2 j (by rw [h.fr];exact hj)];exact h.wd j hj
 .grind [pvT,ctE]
 .have e:Ftc (ctE n E1).M (E.M.pc+4*p+4) (q+1):=by
   have e2:∀ N:Mc,N.c=E.M.c->N.m=r.2.2->Ftc N (E.M.pc+4*p+4) (q+1):=fun N n1 n2=>by
    obtain ⟨f1,f2,f3⟩:=F2;unfold mO at f1;unfold mA at f2;unfold mM at f3;refine ⟨?_,?_,?_⟩
    .grind [mO,cR,pvT,ctE]
    .grind [mA,cR,pvT,ctE]
    .grind [mM,cR,pvT,ctE]
   exact e2 _ hK.c hm
  show Ftc _ ((ctE n E1).M.pc+4*0) _;rw [show (ctE n E1).M.pc+4*0=E.M.pc+4*p+4 by show E1.M.pc+4*0=_;rw [hP,gR]];exact e
 .show r.1.length=16
  rw [<- hX];exact hK.ok.M.x
 .rw [<- hX];exact hK.ok.M.xr
theorem QIP (pc p:Nat) (h:pc+4*p<4294967296):lpc pc ((1:Int)+(p:Int))=pc+4*p:=by
 unfold lpc w32;omega
theorem QuG (m:Mi) (l:List Mi) (is:List Bool) (v:List Nat):rwL (m::l) is v=Qa6 m is v::rwL l (QfM (Qa6 m is v).o (Qa6 m is v).a is) (Qe8 (Qa6 m is v).o (Qa6 m is v).a (Qa6 m is v).k v):=rfl
theorem Qym (X:List Nat) (hXr:ZL X) (f lim:Nat):∀ (cnt q:Nat) (is:List Bool) (v:List Nat) (p d:Nat) (E:Eg) (x:List Nat),
  is.length=16->v.length=16->(ZL v)->q / 32=f->q%32+cnt<=32->bl X cnt q≠ []->Bs X f q p x E->d<=lim->E.M.ct+(lim-d)<=1152921504606846976->QkE is v x ->
  (x=E.M.x\/∃ m l z,rwL (bl X cnt q) is v=m::l/\m.o=24/\x=QaD E.M.x m.a z)->(p<=lim-d->Qhe p E.M (Qou E.M x p)) ->
  Dn lim d E (QfQ (mrg (rwL (bl X cnt q) is v) p) lim d E):=by
 intro cnt
 induction cnt with
 | zero=>intro q is v p d E x _ _ _ _ _ h;exact absurd rfl h
 | succ cnt ih =>
  intro q is v p d E x ZY hv qY hq GX fQ hB zY fM JS hx fC;have YL:bl X (cnt+1) q=if dOk (X.getD q 0)=true then (if Qco (dOp (X.getD q 0))=true then [bM (X.getD q 0)] else bM (X.getD q 0)::bl X cnt (q+1)) else []:=rfl
  have hd:dOk (X.getD q 0)=true:=by grind
  rw [zP hd] at YL;obtain ⟨T,hT,hTe⟩:∃ T,bl X (cnt+1) q=bM (X.getD q 0)::T/\(T≠ []->Qco (dOp (X.getD q 0))=false/\T=bl X cnt (q+1)):=by grind
  clear YL;rw [hT] at hx |-;rw [QuG] at hx |-;have wO:X.getD q 0<4294967296:=Qab hXr q;have qD:Qbq (bM (X.getD q 0)):=by grind [QwN,Qab,bM,List.mem_cons_self,bl,QkE,rwL,QaD]
  obtain ⟨m,hm⟩:∃ m,Qa6 (bM (X.getD q 0)) is v=m:=⟨_,rfl⟩;have hok1:=QiE (bM (X.getD q 0)) is v qY qD;have uI:m.n=1:=by rw [<- hm,Qwb];exact (QFz _ hd).2.2.2.2
  have VI:=fun c mm P=>QCp x c mm P (bM (X.getD q 0)) is v qD hB.xr hB.x0 JS
  rw [hm] at hok1 hx VI |-;have gY:=QoE m.o m.a m.k is v;have vN:=Qh0 m.o m.a m.k v hok1.2.2.2.1 qY
  have emit:∀ (rest:List Mi),(rest= []\/T≠ []/\rest=mrg (rwL T (QfM m.o m.a is) (Qe8 m.o m.a m.k v)) 0)->Dn lim d E (QfQ ({ m with n:=m.n+(p:Int) }::rest) lim d E):=fun rest jE=>by
   obtain ⟨e,he⟩:∃ e:Mi,e= { m with n:=m.n+(p:Int) }:=⟨_,rfl⟩;rw [<- he,QCr];have yK:e.n=1+(p:Int):=by rw [he,<- uI]
   have hen2:e.n.toNat=p+1:=by rw [yK];omega
   have heok:Qbq e:=by rw [he];exact ⟨hok1.1,hok1.2.1,hok1.2.2.1,hok1.2.2.2.1⟩
   rw [hen2]
   by_cases hl:lim-d<p+1
   .rw [zP hl];exact Qpp zY hB.ok hB.coh
   rw [zN hl];obtain ⟨hF,hTr⟩:=Qp4 E hB.ok hB.coh e heok
   cases jU:(exO E e).2 with
   | false=>rw [zP rfl];exact Qpp zY hB.ok hB.coh
   | true =>
    rw [zN (fun h=>by cases h)];obtain ⟨uR,hK⟩:=hTr jU;generalize (exO E e).1=E1 at *;clear hF hTr jU;rw [QCl,yK,QIP _ _ hB.pc] at uR;have hen3:opT E.M.x E.M.c E.M.m (E.M.pc+4*p) e=opT E.M.x E.M.c E.M.m (E.M.pc+4*p) m:=by rw [he];rfl
    rw [hen3] at uR;obtain ⟨r,_,hMr⟩:∃ r,opT E.M.x E.M.c E.M.m (E.M.pc+4*p) m=some r/\pvT E.M r=E1.M:=by simp_all
    have yV:opT x E.M.c E.M.m (E.M.pc+4*p) m=some r:=by grind [Qv5,QmT,bl,QkE,rwL,QaD,Qhe,Qou]
    have hr2:=yV;rw [VI] at hr2;have uJ:=QdU (fC (by omega)) (QoU hB hq (by omega) hd hr2);have hctM:E1.M.ct=E.M.ct:=by rw [<- hMr];rfl
    have vP:({ E.M with x:=r.1,pc:=r.2.1,m:=r.2.2,ct:=E.M.ct+p+1 }:Mc)=(ctE (p+1) E1).M:=by
     show _= { E1.M with ct:=(E1.M.ct+(p+1))%18446744073709551616 };rw [Nat.mod_eq_of_lt (by omega),<- hMr];rfl
    rw [vP] at uJ
    cases hs:E1.s with
    | true =>
     rw [zP rfl];exact ⟨by show d<=d+(p+1);omega,by show d+(p+1)<=lim;omega,by show Qhe (d+(p+1)-d) _ _;rw [show d+(p+1)-d=p+1 by omega];exact uJ,QhB hK.ok _,Qgz hK.coh _,hK.o⟩
    | false =>
     rw [zN (fun h=>by cases h)];rcases jE with jE|⟨wG,jE⟩
     .subst jE
      exact ⟨by show d<=d+(p+1);omega,by show d+(p+1)<=lim;omega,by show Qhe (d+(p+1)-d) _ _;rw [show d+(p+1)-d=p+1 by omega];exact uJ,QhB hK.ok _,Qgz hK.coh _,hK.o⟩
     .subst jE
      obtain ⟨hend,yY⟩:=hTe wG;have hcnt:0<cnt:=by grind [bl,QkE,rwL,QaD,Qhe,Qou,QfQ,mrg]
      have hpc4:=(Qii hB.coh.n hB.pc hB.ft (by omega) (by have:=hB.ok.M.ml;omega)).2
      have hpc1:r.2.1=E.M.pc+4*p+4:=by
       have h1:=QCo hr2 hend;rw [h1];unfold w32;omega
      obtain ⟨z,hz,_⟩:=QCq yV;have hr0:r.1.getD 0 0=0:=by rw [hz];exact QrY _ _ _ hB.x0
      have UK:=QwP (n:=p+1) hB hq (by omega) hK hs hMr.symm hpc1 hr0 (by rw [hctM];omega);have HR:=Qjj ZY hv hB.x16 hok1.1 JS yV;have hEx:(ctE (p+1) E1).M.x=r.1:=by show E1.M.x=_;rw [<- hMr];rfl
      have ZE:(ctE (p+1) E1).M.ct=E.M.ct+(p+1):=by grind
      have hD:=ih (q+1) (QfM m.o m.a is) (Qe8 m.o m.a m.k v) 0 (d+(p+1)) (ctE (p+1) E1) r.1 (by rw [gY.1,ZY]) (by rw [gY.2,hv]) vN (by omega) (by omega) (by rw [<- yY];exact wG) UK (by omega) (by rw [ZE];omega) HR (.inl hEx.symm) (fun _=>by grind [ctE,Qou,bl,QkE,rwL,QaD,Qhe,QfQ]);rw [<- yY,show ((0:Nat):Int)=0 from rfl] at hD;generalize QfQ (mrg (rwL T (QfM m.o m.a is) (Qe8 m.o m.a m.k v)) 0) lim (d+(p+1)) (ctE (p+1) E1)=R at *;obtain ⟨u1,u2,u3,u4,u5,u6⟩:=hD;refine ⟨by omega,u2,?_,u4,u5,u6.trans hK.o⟩;have:=QdU uJ u3;rw [show p+1+(R.2-(d+(p+1)))=R.2-d by omega] at this;exact this
  cases hTc:rwL T (QfM m.o m.a is) (Qe8 m.o m.a m.k v) with
  | nil=>grind [QfQ,bl,QkE,rwL,QaD,Qhe,Qou,mrg]
  | cons m2 l =>
   have wG:T≠ []:=fun h=>by rw [h] at hTc;cases hTc
   show Dn lim d E (QfQ (if QsT m m2=true then mrg (m2::l) (m.n+(p:Int)) else { m with n:=m.n+(p:Int) }::mrg (m2::l) 0) lim d E)
   by_cases hu:QsT m m2=true
   case neg=>grind
   rw [zP hu,uI,show (1:Int)+(p:Int)=((p+1:Nat):Int) by omega,<- hTc];obtain ⟨hend,yY⟩:=hTe wG;have hcnt:0<cnt:=by grind [bl,QkE,rwL,QaD,Qhe,Qou,QfQ,mrg]
   obtain ⟨hF4,hpc4⟩:=Qii hB.coh.n hB.pc hB.ft (by omega) (by have:=hB.ok.M.ml;omega)
   obtain ⟨val,yV,vF,hval⟩:∃ val,opT x E.M.c E.M.m (E.M.pc+4*p) m=some (QaD x m.a val,w32 (((E.M.pc+4*p:Nat):Int)+4),E.M.m)/\(m.o=24\/m.a=0)/\val<4294967296:=by
    unfold QsT at hu
    by_cases vF:m.o=24
    .exact ⟨m.k,Qv5 vF,.inl vF,hok1.2.2.2.1⟩
    .rw [zN vF,zba,zde] at hu
     have har2:=(Qgo _).1 hu.2;refine ⟨Qbu m.o (x.getD m.b 0) (if m.o<=13 then x.getD m.c 0 else m.k),?_,.inr hu.1,?_⟩
     .grind [opT,bl,QkE,rwL,QaD,Qhe,Qou,QfQ]
     .refine Qc1 _ _ _ (Qab hB.xr _) ?_
      split
      .exact Qab hB.xr _
      .grind
   have hr2:=yV;rw [VI] at hr2;have hw32:w32 (((E.M.pc+4*p:Nat):Int)+4)=E.M.pc+4*(p+1):=by unfold w32;omega
   have HR:=Qjj ZY hv hB.x16 hok1.1 JS yV;have fE:=QlI hB.x16 hB.xr m.a val hval;have UK:Bs X f (q+1) (p+1) (QaD x m.a val) E:=⟨hB.ok,hB.coh,hB.s,hB.fr,hB.may,hB.ht,hB.wt,hB.int,hB.wd,by omega,by rw [show E.M.pc+4*(p+1)=E.M.pc+4*p+4 by omega];exact hF4,fE.1,fE.2,QrY _ _ _ hB.x0⟩;rw [yY] at hTc |-;refine ih (q+1) (QfM m.o m.a is) (Qe8 m.o m.a m.k v) (p+1) d E (QaD x m.a val) (by rw [gY.1,ZY]) (by rw [gY.2,hv]) vN (by omega) (by omega) (by rw [<- yY];exact wG) UK zY fM HR ?_ (fun hp=>?_)
   .grind [QCT,QsT,u1,QmT,bl,QkE,rwL,QaD]
   .have:=QdU (fC (by omega)) (QoU hB hq (by omega) hd hr2)
    dsimp only at this;rw [hw32] at this;exact this
structure CpM (x c:List Nat):Prop where
 (x0:x.getD 0 0=0) (c0:c.getD 0 0<=31) (c7:c.getD 7 0<=31) (c6:c.getD 6 0<=255) (c1:c.getD 1 0%4=0)
theorem QuY (s:Nat) (h:s<=31):Qfq s<=31:=by unfold Qfq;omega
theorem QyB (s:Nat) (h:s<=31):QgZ s<=31:=by unfold QgZ;omega
theorem QhA {x c:List Nat} (h:CpM x c) (pc:Nat) (k:Int) (b:Nat):CpM x (trL pc c k b):=⟨h.x0,QuY _ h.c0,h.c7,h.c6,h.c1⟩
theorem QkX {x c:List Nat} (h:CpM x c) (a v:Nat):CpM (QaD x a v) c:=⟨QrY _ _ _ h.x0,h.c0,h.c7,h.c6,h.c1⟩
theorem QIv (v:Nat) (h:ZU v):(v &&& (4294967295-3))%4=0:=by
 have h1:(v &&& (4294967295-3))%2^2=(v%2^2) &&& ((4294967295-3)%2^2):=Nat.and_mod_two_pow ..;have h2:(4294967295-3)%2^2=0:=rfl;rw [h2,Nat.and_zero] at h1;exact h1
theorem QBm {x c:List Nat} (hc:c.length=8) (h:CpM x c) (m:Int) (v:Nat) (hv:ZU v):CpM x (wrL c m v):=by
 obtain ⟨h0,h1,h2,h3,h4⟩:=h;have g:∀ i w j,i<8->(c.set i w).getD j 0=if j=i then w else c.getD j 0:=fun i w j hi=>QeM c i j w 0 (by omega)
 unfold wrL
 repeat' split
 all_goals first
  | exact ⟨h0,h1,h2,h3,h4⟩
  | (refine ⟨h0,?_,?_,?_,?_⟩<;>rw [g _ _ _ (by decide)]<;>first|(rw [zN (by decide)];assumption)|(rw [zP rfl];first|omega|exact QIv v hv))
theorem Qw5 {x c:List Nat} (hc:c.length=8) (h:CpM x c):CpM x (c.set 0 (QgZ (c.getD 0 0))):=by
 obtain ⟨h0,h1,_,_,_⟩:=h;have g:∀ i w j,i<8->(c.set i w).getD j 0=if j=i then w else c.getD j 0:=fun i w j hi=>QeM c i j w 0 (by omega)
 refine ⟨h0,?_,?_,?_,?_⟩<;>rw [g _ _ _ (by decide)]
 .rw [zP rfl];exact QyB _ h1
 all_goals (rw [zN (by decide)];assumption)
theorem Qw3 {x c:List Nat} (hc:c.length=8) (hx:ZL x) (h:CpM x c) (pc:Nat) (o:Int) (A:Nat) (m:Int):CpM x (exC x pc c o A m):=by
 unfold exC;split
 .exact QhA h _ _ _
 split
 .exact Qw5 hc h
 split
 .exact QBm hc h _ _ (Qab hx _)
 .exact h
theorem Qw4 {x c d:List Nat} (h:CpM x d) (pc:Nat) (o:Int) (A B C:Nat) (m:Int):CpM (exX x pc c o A B C m) d:=by
 unfold exX;split
 .exact QkX h _ _
 split
 .exact QkX h _ _
 split
 .exact QkX h _ _
 split
 .exact QkX h _ _
 split
 .exact QkX h _ _
 .exact h
theorem Qpe {x c:List Nat} (h:CpM x c) (pc:Nat) (K:Int) (va:Nat):CpM x (trC pc c K va):=by
 unfold trC;split
 .exact h
 .exact QhA h _ _ _
theorem QBl (x:List Nat) (pc:Nat) (c xs:List Nat) (n:Nat) (hc:c.length=8) (hx:ZL x) (h:CpM x c):CpM (exS x pc c xs n).x (exS x pc c xs n).c:=by
 unfold exS;split
 .exact QhA h _ _ _
 split
 .exact QhA h _ _ _
 split
 .exact QhA h _ _ _
 split
 .dsimp only
  have:CpM x (trC pc c (rsK (rsM xs n (c.getD 0 0) (c.getD 6 0) pc 4 1) n (c.getD 0 0) (c.getD 6 0) (vaO x (nB (ftW xs n (c.getD 0 0) (c.getD 6 0) pc)) (dM (ftW xs n (c.getD 0 0) (c.getD 6 0) pc))) (wd (dOp (ftW xs n (c.getD 0 0) (c.getD 6 0) pc))) 2) (vaO x (nB (ftW xs n (c.getD 0 0) (c.getD 6 0) pc)) (dM (ftW xs n (c.getD 0 0) (c.getD 6 0) pc)))):=Qpe h _ _ _;unfold ldX;split
  .exact QkX this _ _
  .exact this
 split
 .exact Qpe h _ _ _
 .exact Qw4 (Qw3 hc hx h _ _ _ _) _ _ _ _ _ _
theorem QwZ (k:ByteArray) (p:Int) (h:k.size<=16):(QkV k p).size<=16:=by
 unfold QkV;split
 .split
  .exact h
  .rw [ByteArray.size_extract];omega
 .exact h
theorem Qxh (d:Dk) (xs:List Nat) (n:Nat) (p:Int) (v c:Nat) (h:QbP d (mpg n:Nat)=true):QbP (Qa4 d xs n p v c).1 (mpg n:Nat)=true:=by
 unfold QbP at h |-;rw [zde] at h |-;obtain ⟨h1,h2,h3,h4,h5⟩:=h;unfold Qa4;split
 .exact ⟨h1,h2,h3,h4,h5⟩
 split
 .exact ⟨h1,h2,h3,h4,h5⟩
 split
 .exact ⟨h1,h2,h3,h4,h5⟩
 split
 .rename_i hq
  exact ⟨h1,(show (0:Int)<=0 from by decide),(show (0:Int)<=3 from by decide),fun _=>h4 (by omega),(fun h=>by cases h)⟩
 split
 .rename_i hq
  have h6:=h4 (by omega);split
  .exact ⟨h1,(show (0:Int)<=3 from by decide),(show (3:Int)<=3 from by decide),fun _=>h6,(fun h=>by cases h)⟩
  split
  .exact ⟨h1,(show (0:Int)<=3 from by decide),(show (3:Int)<=3 from by decide),fun _=>h6,(fun h=>by cases h)⟩
  .rename_i g1 g2
   have qE:QbE n d.fr=true:=by cases h:QbE n d.fr with|true=>rfl|false=>exact absurd h g2
   have GW:=qE;unfold QbE at GW;have GW:=of_decide_eq_true GW;refine ⟨h1,(show (0:Int)<=1 from by decide),(show (1:Int)<=3 from by decide),(fun h=>absurd rfl h),fun _=>⟨by show d.bl<d.bs;omega,GW,?_⟩⟩;unfold Qps;dsimp only;rcases hq.1 with e|e
   .left
    rw [zN (by omega)];exact ⟨e,by unfold noD;exact beq_self_eq_true _⟩
   .right
    rw [zP e];exact ⟨e,Qiz qE⟩
 .exact ⟨h1,h2,h3,h4,h5⟩
theorem Qyi (d:Nk) (xs:List Nat) (n:Nat) (p:Int) (v c:Nat) (h:Qb8 d (mpg n:Nat)=true):Qb8 (Qbk d xs n p v c).1 (mpg n:Nat)=true:=by
 unfold Qb8 at h |-;rw [zde] at h |-;obtain ⟨h1,h2,h3,h4⟩:=h;unfold Qbk;split
 .exact ⟨h1,h2,h3,h4⟩
 split
 .exact ⟨h1,h2,h3,h4⟩
 split
 .exact ⟨h1,h2,h3,h4⟩
 split
 .exact ⟨fun h=>⟨rfl,(h1 h).2⟩,h2,(fun h=>by cases h),fun _=>rfl⟩
 split
 .exact ⟨h1,h2,h3,h4⟩
 split
 .rename_i hq
  obtain ⟨_,q2,_,q4⟩:=hq;unfold QbE at q2;exact ⟨fun _=>⟨q4,of_decide_eq_true q2⟩,(fun h=>by cases h),h3,h4⟩
 .exact ⟨h1,h2,h3,h4⟩
theorem QBb (a b i:Nat):(a ||| b) / 2^i%2=1↔a / 2^i%2=1\/b / 2^i%2=1:=by
 have h:∀ x:Nat,x / 2^i%2=1↔x.testBit i=true:=fun x=>by
  rw [Nat.testBit_eq_decide_div_mod_eq,zde]
 rw [h,h,h,Nat.testBit_or,Bool.or_eq_true]
theorem QwK (bg n:Nat) (p:Int) (v:Nat) (hbg:ZU bg) (h:QbZ bg (mpg n:Nat)=true):QbZ (Qhj bg n p v) (mpg n:Nat)=true:=by
 unfold QbZ at h |-;rw [zde] at h |-;intro i hi hb;unfold Qhj at hb;split at hb
 .rename_i hq
  unfold gvQ QbE at hq;rw [QBb] at hb;rcases hb with hb|hb
  .exact h i hi hb
  .have:i=v:=by
    have h2:(2^v:Nat).testBit i=true:=by rw [Nat.testBit_eq_decide_div_mod_eq,zde];exact hb
    rw [Nat.testBit_two_pow] at h2;exact (of_decide_eq_true h2).symm
   subst this;exact of_decide_eq_true hq.2.1
 split at hb
 .rename_i hq
  have hv:v<32:=by omega
  have hp:2^v<4294967296:=Nat.lt_of_lt_of_le (Nat.pow_lt_pow_right (by decide) hv) (by decide);have he:=(Qi2 bg (2^v)).1;rw [Qcz bg (2^v) hbg hp] at he;have he:=Int.ofNat_inj.1 he;rw [<- he] at hb;refine h i hi ?_
  have hT:∀ x:Nat,x / 2^i%2=1↔x.testBit i=true:=fun x=>by
   rw [Nat.testBit_eq_decide_div_mod_eq,zde]
  rw [hT,Nat.testBit_and,zba] at hb;rw [hT];exact hb.1
 .exact h i hi hb
theorem QhY (M:Mc) (hM:M.ok) (w:Nat) (h:Qbg M=true) (hs:Qb3 M=false):Qbg (Qbh M w).1=true:=by
 have wT:M.ht=false/\M.ct<1152921504606846976:=by
  unfold Qb3 at hs;simp only [Bool.or_eq_false_iff,decide_eq_false_iff_not] at hs;exact ⟨hs.1.1.2,by omega⟩
 have hQ:=QbY M hM;have hm:=h;unfold Qbg at h;rw [zde] at h;obtain ⟨p1,p2,p3,p4,p5,p6,p7,p8,p9,p10,p11,_,_⟩:=h
 have hC:CpM M.x (Qdd M):=by
  have h0:CpM M.x M.c:=⟨p2,p3,p4,p5,p6⟩;unfold Qdd;split
  .exact QhA h0 _ _ _
  .exact h0
 have hE:CpM (QaI M).x (QaI M).c:=QBl M.x (Qde M) (Qdd M) M.m _ (Qbw M hM) hM.xr hC;have hl:(QaI M).m.length=M.m.length:=hQ.ml
 have key:∀ (x c m:List Nat) (pc:Nat) (ks:ByteArray) (ta:Bool) (td:Nat) (tf:Bool) (d:Dk) (n:Nk) (bt bg:Nat) (wt ht:Bool),CpM x c->m.length=M.m.length->Qb7 ks=true->Qd7 ta td tf=true->QbP d (mpg M.m.length:Nat)=true->Qb8 n (mpg M.m.length:Nat)=true->QbZ bg (mpg M.m.length:Nat)=true->¬ (wt=true/\ht=true)->Qbg (Qdc ⟨x,pc,c,m,ks,ta,td,tf,d,n,bt,bg,M.ct,wt,ht⟩)=true:=fun x c m pc ks ta td tf d n bt bg wt ht g1 g2 g3 g4 g5 g6 g7 g8=>by
  unfold Qbg Qdc;rw [zde];dsimp only;rw [g2,Nat.mod_eq_of_lt (show M.ct+1<18446744073709551616 by omega)];exact ⟨p1,g1.x0,g1.c0,g1.c7,g1.c6,g1.c1,g3,g4,g5,g6,g7,by omega,g8⟩
 have uK:∀ b:Bool,¬ (false=true/\b=true):=fun b h=>by cases h.1
 unfold Qbh;split
 .have hx:=QkX hE (eR (QaI M).e) (inV (QaF M) (eP (QaI M).e) w)
  have hk:Qb7 (inM (QaF M) (eP (QaI M).e)).ks=true:=by
   unfold inM;split
   .unfold Qb7 at p7 |-
    rw [zde] at p7 |-;have:=QwZ M.ks (eP (QaI M).e) (by omega);show ((QkV M.ks _).size:Int)<=16;omega
   .exact p7
  have he:∀ p:Int,inM (QaF M) p= { QaF M with ks:=(inM (QaF M) p).ks }:=fun p=>by unfold inM;split<;>rfl
  rw [he];exact key _ _ _ _ _ _ _ _ _ _ _ _ _ _ hx hl hk p8 p9 p10 p11 (uK _)
 split
 .unfold Qbx
  split
  .exact key _ _ _ _ _ _ _ _ _ _ _ _ _ _ hE hl p7 p8 p9 p10 p11 (uK _)
  split
  .exact key _ _ _ _ _ _ _ _ _ _ _ _ _ _ hE hl p7 p8 p9 p10 p11 (uK _)
  split
  .refine key _ _ _ _ _ _ _ _ _ _ _ _ _ _ hE hl p7 ?_ p9 p10 p11 (uK _)
   unfold Qd7;rw [zde];refine ⟨(fun h=>by cases h.2),fun h=>?_,fun h _=>?_⟩
   .have:=of_decide_eq_true h
    omega
   .have:=of_decide_eq_false h
    omega
  split
  .refine key _ _ _ _ _ _ _ _ _ _ _ _ _ _ hE hl p7 p8 ?_ p10 p11 (uK _)
   show QbP (Qa4 M.d (QaI M).m (QaI M).m.length _ _ _).1 _=true;rw [hl];exact Qxh M.d _ _ _ _ _ p9
  split
  .refine key _ _ _ _ _ _ _ _ _ _ _ _ _ _ hE hl p7 p8 p9 ?_ p11 (uK _)
   show Qb8 (Qbk M.n (QaI M).m (QaI M).m.length _ _ _).1 _=true;rw [hl];exact Qyi M.n _ _ _ _ _ p10
  .refine key _ _ _ _ _ _ _ _ _ _ _ _ _ _ hE ?_ p7 p8 p9 p10 ?_ (uK _)
   .exact (QeO _ _ _ _ _).trans hl
   .show QbZ (Qhj M.bg (QaI M).m.length _ _) _=true
    rw [hl];exact QwK M.bg _ _ _ hM.dv.2.2.1 p11
 split
 .refine key _ _ _ _ _ _ _ _ _ _ _ _ _ _ hE hl p7 p8 p9 p10 p11 (fun h=>?_)
  have:=h.2;change M.ht=true at this;rw [wT.1] at this;cases this
 split
 .exact key _ _ _ _ _ _ _ _ _ _ _ _ _ _ hE hl p7 p8 p9 p10 p11 (uK _)
 .exact key _ _ _ _ _ _ _ _ _ _ _ _ _ _ hE hl p7 p8 p9 p10 p11 (uK _)
end Go.Proofs.YtpgkkfajljekpabGreat
