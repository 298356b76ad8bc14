import Derived.Test.YtjgikeckbeeehaaGreatP37
set_option linter.unusedSimpArgs false
set_option linter.unusedVariables false
set_option maxHeartbeats 100000000
set_option maxRecDepth 100000
namespace Go.Proofs.YtjgikeckbeeehaaGreat
open Go Go.RowKit
theorem QDg (s:Int) (L i nn:Nat) (A0 LG0 QU Z:List SV) (r:Rk) (os:List (List SV)) (hL:QjK s=(L:Int)) (hL4:L≤4000) (hi:i<L) (hZl:Z.length=52) (hZs:Qau Z=true) (hs0:Qau A0=true) (hsl:Qau LG0=true) (hse:Qau QU=true) (hrk:r.ok (900000016+2*i)) (hes:r.es= []) (hrl:r.M.m.length=nn) (hos:QbC os) (hol:os.length≤i) (hst:QoX r.due.M=false) (hd:Qw3 r.M r.ck=true) (hok:(QbA r.M eT.k eT.n eT.s).2=false) (K:Exit→St→Prop)
  (hK:∀ σ1,Wk Tryz.f103.ntmps 3 σ1 (ad2 s (i+1) (os++(Qb8 r.due.M r.due.ck).2.toList).length A0 LG0 QU (r.due.go.M.C 5++ [.int .u32 r.due.go.ck,.sl 6 0 r.due.go.lg,.nilsl]) Z (wsv r.due.go.M.m) r.due.go.LG (OLs (os++(Qb8 r.due.M r.due.ck).2.toList)))→K .normal σ1) :
  vc Tryz.prog tys Tryz.f103.ntmps 3 bdE (ad2 s i os.length A0 LG0 QU (r.M.C 5++ [.int .u32 r.ck,.sl 6 0 r.lg,.nilsl]) Z (wsv r.M.m) r.LG (OLs os)) K:=by
 have qL:=QkT s
 rw [hL] at qL
 obtain ⟨hO1,hO2,hO3⟩:=QdO hos
 have hdk:=Qks r _ hrk
 obtain ⟨p1,p2,p3⟩:=Qqs r
 rw [hes] at p1
 rw [hrl] at p3
 have hrk9:r.ok 1000000000:=by obtain ⟨u1,u2,u3,u4,u5,_,u7,u8⟩:=hrk;exact ⟨u1,u2,u3,u4,u5,by omega,u7,u8⟩
 have q2:IntKind.i64.wrap ((i:Int)+1)=((i+1:Nat):Int):=by rw [QbI (by omega) (by omega)];omega
 have qd:=Qs0 r.M.ta r.M.td r.M.tf r.ck
 change Fn _ _ _ _ (· =⟨.a (.s (.bool (Qw3 r.M r.ck))),[],[]⟩) at qd
 have hx:=hrk.M.x
 have hc:=hrk.M.c
 have hs1:=Qaa r.M.m
 have hl1:=hrk.ls
 have qo:=QjV r hrk9 eT QrX hok
 have hdue:r.due=if Qw3 r.M r.ck=true then r.off eT else r:=rfl
 rw [hd] at qd hdue
 rw [if_pos rfl] at hdue
 clear hd
 have hqs:=Qg1 r.due.M hdk.M
 have hqr:=Qjk r.due.M hdk.M
 have hgk:=QsB r.due _ hdk
 have hrdk:=QuL r.due _ hdk
 have hqa:=Qnq r.due.M hdk.M r.due.ck hdk.ck r.due.ck r.due.rd.lg r.due.rd.LG hrdk.ls
 have hao:=Qfn r.due.M r.due.ck
 have hal:=Qec r.due.M hdk.M r.due.ck
 have hgo:r.due.go=⟨(Qb8 r.due.M r.due.ck).1,(r.due.ck+1)%4294967296,r.due.rd.lg,r.due.rd.LG,r.due.es⟩:=rfl
 have hrd:r.due.rd=if Qup r.due.M=true then ⟨r.due.M,r.due.ck,r.due.lg+1,r.due.LG++ [.int .u64 r.due.M.ct,.int .i64 1,.int .u32 r.due.ck,.str ⟨#[]⟩],r.due.es⟩ else r.due:=rfl
 have hs2:=Qaa r.due.M.m
 have hl2:=hdk.ls
 have hll:=hdk.ll
 have hlb1:=hdk.lb
 have hx2:=hdk.M.x
 have hc2:=hdk.M.c
 rw [hst] at hqs
 clear hst
 generalize Qup r.due.M=rc at *
 have hk3:900000016+2*i+1+1=900000016+2*(i+1):=by omega
 rw [hk3] at hgk
 have hdc:r.due.ck=r.ck:=p2
 clear hrk9 hdk hrdk hrk
 rw [← hdue] at qo
 clear hok
 generalize r.due=r1 at *
 cases rc
 ·skip
  rw [if_neg (by decide)] at hrd
  rw [hrd] at hqa hgo
  clear hrd
  have hqs2:=hqs
  generalize hAV:Qb8 r1.M r1.ck=AV at *
  obtain ⟨M3,O⟩:=AV
  dsimp only at *
  have hx3:=hgk.M.x
  have hc3:=hgk.M.c
  have hs3:=Qaa M3.m
  have hl3:=hgk.ls
  have hos2:=Qbn hos hao
  rw [hgo] at hx3 hc3 hl3
  obtain ⟨r3,hr3⟩:∃ r3,r3=r1.go:=⟨_,rfl⟩
  rw [← hr3] at hK hgk
  rw [hgo] at hr3
  rw [p1] at hr3
  have hes3:r3.es= []:=by rw [hr3]
  have hrl3:r3.M.m.length=nn:=by rw [hr3];exact hal.trans p3
  have hal2:=hal.trans p3
  clear hgo hal hAV hqs2
  cases O with
  | none =>
   dsimp only [Option.toList,oS,oR] at *
   rw [List.append_nil] at hK hos2
   have hfin:∀ RC X LG lgv ol OL,RC=M3.C 5++ [.int .u32 ((r1.ck+1)%4294967296:Nat),.sl 6 0 lgv,.nilsl]→lgv=r1.lg→X=wsv M3.m→LG=r1.LG→ol=os.length→OL=OLs os→ad2 s (i+1) ol A0 LG0 QU RC Z X LG OL=ad2 s (i+1) os.length A0 LG0 QU (r3.M.C 5++ [.int .u32 r3.ck,.sl 6 0 r3.lg,.nilsl]) Z (wsv r3.M.m) r3.LG (OLs os):=fun RC X LG lgv ol OL h1 h2 h3 h4 h5 h6=>by rw [h1,h2,h3,h4,h5,h6,hr3]
   have hon:os.length≤i+1:=by omega
   have hck1:IntKind.u32.wrap ((r1.ck:Int)+1)=(((r1.ck+1)%4294967296:Nat):Int):=by rw [Qbo];omega
   generalize hckn:(r1.ck+1)%4294967296=ckn at *
   clear hr3 hos hes
   generalize hOLo:OLs os=OL at *
   generalize hoLo:os.length=ol at *
   replace hO1:OL.length=ol*ty215.size:=hO1
   obtain ⟨M,ck1,lg,LG,es1⟩:=r
   obtain ⟨M2,ck2,lg2,LG2,es2⟩:=r1
   dsimp only [eT,Ev.C] at *
   subst hdc
   clear hdue p2
   generalize hXe:wsv M.m=Xe at *
   generalize hXf:wsv M2.m=Xf at *
   generalize hXg:wsv M3.m=Xg at *
   obtain ⟨xe,pce,ce,me,kse,tae,tde,tfe,de,ne,bte,bge,cte,wte,hte⟩:=M
   dsimp only at *
   obtain ⟨xe_0,xe_1,xe_2,xe_3,xe_4,xe_5,xe_6,xe_7,xe_8,xe_9,xe_10,xe_11,xe_12,xe_13,xe_14,xe_15,rfl⟩:=Qaq hx
   obtain ⟨ce_0,ce_1,ce_2,ce_3,ce_4,ce_5,ce_6,ce_7,rfl⟩:=QaJ hc
   obtain ⟨de_0,de_1,de_2,de_3,de_4,de_5,de_6,de_7⟩:=de
   obtain ⟨ne_0,ne_1,ne_2,ne_3,ne_4,ne_5⟩:=ne
   obtain ⟨xf,pcf,cf,mf,ksf,taf,tdf,tff,df,nf,btf,bgf,ctf,wtf,htf⟩:=M2
   dsimp only at *
   obtain ⟨xf_0,xf_1,xf_2,xf_3,xf_4,xf_5,xf_6,xf_7,xf_8,xf_9,xf_10,xf_11,xf_12,xf_13,xf_14,xf_15,rfl⟩:=Qaq hx2
   obtain ⟨cf_0,cf_1,cf_2,cf_3,cf_4,cf_5,cf_6,cf_7,rfl⟩:=QaJ hc2
   obtain ⟨df_0,df_1,df_2,df_3,df_4,df_5,df_6,df_7⟩:=df
   obtain ⟨nf_0,nf_1,nf_2,nf_3,nf_4,nf_5⟩:=nf
   obtain ⟨xg,pcg,cg,mg,ksg,tag,tdg,tfg,dg,ng,btg,bgg,ctg,wtg,htg⟩:=M3
   dsimp only at *
   obtain ⟨xg_0,xg_1,xg_2,xg_3,xg_4,xg_5,xg_6,xg_7,xg_8,xg_9,xg_10,xg_11,xg_12,xg_13,xg_14,xg_15,rfl⟩:=Qaq hx3
   obtain ⟨cg_0,cg_1,cg_2,cg_3,cg_4,cg_5,cg_6,cg_7,rfl⟩:=QaJ hc3
   obtain ⟨dg_0,dg_1,dg_2,dg_3,dg_4,dg_5,dg_6,dg_7⟩:=dg
   obtain ⟨ng_0,ng_1,ng_2,ng_3,ng_4,ng_5⟩:=ng
   have hfin2:=hfin _ Xg LG2 lg2 ol OL rfl rfl rfl rfl rfl rfl
   clear hfin
   unfold ad2
   simp only [Qaf,List.cons_append,List.nil_append,Mc.C,Mc.D,Dk.C,Nk.C,hrl,p3,hal2] at *
   (repeat' ((conv=>whnf);first|(intro hb;first|exact zk3 hb|(try (replace hb:=zn0 hb)))|(with_reducible first|refine zv q2 ?_|refine zv hck1 ?_)|(apply Sd.mk; · first|exact ⟨rfl,rfl,hO1,bnd (by omega) (by decide),by omega⟩|exact ⟨rfl,rfl,hO1⟩)|((with_reducible apply Vl.mk (α:=List SV)); · with_reducible exact List.append_nil OL)|(refine zpu qL ?_)|(refine zpu qd ?_)|(refine Qay hqs ?_)|(refine Qay hqr ?_)|(refine Qbx hqa ?_)|(refine Qc2 qo ?_)|refine zst ?_|refine zbx ?_ ?_|refine zgx ?_ ?_|refine eqR ?_));(all_goals (try (conv=>whnf)))
   all_goals first|(exfalso;omega)|(exfalso;simp at hb;done)|(refine hK _ ?_;rw [← hfin2];unfold ad2;(exact zwL [(0,some 0),(1,some 1),(2,some 2),(3,some 3),(4,some 4),(5,some 5),(6,some 6),(7,some 393536)]))
  | some l =>
   obtain ⟨hl4,hls,hlk⟩:=hao l rfl
   have hOa:=Qdb os l
   have hol2:(os++ [l]).length=os.length+1:=by simp
   dsimp only [Option.toList,oS,oR] at *
   have hfin:∀ RC X LG lgv ol OL,RC=M3.C 5++ [.int .u32 ((r1.ck+1)%4294967296:Nat),.sl 6 0 lgv,.nilsl]→lgv=r1.lg→X=wsv M3.m→LG=r1.LG→ol=(os++ [l]).length→OL=OLs (os++ [l])→ad2 s (i+1) ol A0 LG0 QU RC Z X LG OL=ad2 s (i+1) (os++ [l]).length A0 LG0 QU (r3.M.C 5++ [.int .u32 r3.ck,.sl 6 0 r3.lg,.nilsl]) Z (wsv r3.M.m) r3.LG (OLs (os++ [l])):=fun RC X LG lgv ol OL h1 h2 h3 h4 h5 h6=>by rw [h1,h2,h3,h4,h5,h6,hr3]
   have hon:(os++ [l]).length≤i+1:=by rw [hol2];omega
   have hck1:IntKind.u32.wrap ((r1.ck:Int)+1)=(((r1.ck+1)%4294967296:Nat):Int):=by rw [Qbo];omega
   generalize hckn:(r1.ck+1)%4294967296=ckn at *
   clear hr3 hos hes
   rw [hOa,hol2] at hfin hK
   generalize hOLo:OLs os=OL at *
   generalize hoLo:os.length=ol at *
   have hOap:∃ OL2,OL++l=OL2:=⟨_,rfl⟩
   obtain ⟨OL2,hOap⟩:=hOap
   have hO2b:Qau OL2=true:=by rw [← hOap];exact QaI hO2 hls
   rw [hOap] at hfin hK
   replace hO1:OL.length=ol*ty215.size:=hO1
   obtain ⟨M,ck1,lg,LG,es1⟩:=r
   obtain ⟨M2,ck2,lg2,LG2,es2⟩:=r1
   dsimp only [eT,Ev.C] at *
   subst hdc
   clear hdue p2
   generalize hXe:wsv M.m=Xe at *
   generalize hXf:wsv M2.m=Xf at *
   generalize hXg:wsv M3.m=Xg at *
   obtain ⟨xe,pce,ce,me,kse,tae,tde,tfe,de,ne,bte,bge,cte,wte,hte⟩:=M
   dsimp only at *
   obtain ⟨xe_0,xe_1,xe_2,xe_3,xe_4,xe_5,xe_6,xe_7,xe_8,xe_9,xe_10,xe_11,xe_12,xe_13,xe_14,xe_15,rfl⟩:=Qaq hx
   obtain ⟨ce_0,ce_1,ce_2,ce_3,ce_4,ce_5,ce_6,ce_7,rfl⟩:=QaJ hc
   obtain ⟨de_0,de_1,de_2,de_3,de_4,de_5,de_6,de_7⟩:=de
   obtain ⟨ne_0,ne_1,ne_2,ne_3,ne_4,ne_5⟩:=ne
   obtain ⟨xf,pcf,cf,mf,ksf,taf,tdf,tff,df,nf,btf,bgf,ctf,wtf,htf⟩:=M2
   dsimp only at *
   obtain ⟨xf_0,xf_1,xf_2,xf_3,xf_4,xf_5,xf_6,xf_7,xf_8,xf_9,xf_10,xf_11,xf_12,xf_13,xf_14,xf_15,rfl⟩:=Qaq hx2
   obtain ⟨cf_0,cf_1,cf_2,cf_3,cf_4,cf_5,cf_6,cf_7,rfl⟩:=QaJ hc2
   obtain ⟨df_0,df_1,df_2,df_3,df_4,df_5,df_6,df_7⟩:=df
   obtain ⟨nf_0,nf_1,nf_2,nf_3,nf_4,nf_5⟩:=nf
   obtain ⟨xg,pcg,cg,mg,ksg,tag,tdg,tfg,dg,ng,btg,bgg,ctg,wtg,htg⟩:=M3
   dsimp only at *
   obtain ⟨xg_0,xg_1,xg_2,xg_3,xg_4,xg_5,xg_6,xg_7,xg_8,xg_9,xg_10,xg_11,xg_12,xg_13,xg_14,xg_15,rfl⟩:=Qaq hx3
   obtain ⟨cg_0,cg_1,cg_2,cg_3,cg_4,cg_5,cg_6,cg_7,rfl⟩:=QaJ hc3
   obtain ⟨dg_0,dg_1,dg_2,dg_3,dg_4,dg_5,dg_6,dg_7⟩:=dg
   obtain ⟨ng_0,ng_1,ng_2,ng_3,ng_4,ng_5⟩:=ng
   have hfin2:=hfin _ Xg LG2 lg2 (ol+1) OL2 rfl rfl rfl rfl rfl rfl
   clear hfin
   unfold ad2
   simp only [Qaf,List.cons_append,List.nil_append,Mc.C,Mc.D,Dk.C,Nk.C,hrl,p3,hal2] at *
   (repeat' ((conv=>whnf);first|(intro hb;first|exact zk3 hb|(try (replace hb:=zn0 hb)))|(with_reducible first|refine zv q2 ?_|refine zv hck1 ?_)|(apply Sd.mk; · exact ⟨rfl,rfl,hO1,bnd (by omega) (by decide),by omega⟩)|(apply Sk.mk; · exact Qbs l hl4 hlk)|((with_reducible apply Vl.mk (α:=List SV)); · with_reducible exact hOap)|(refine zpu qL ?_)|(refine zpu qd ?_)|(refine Qay hqs ?_)|(refine Qay hqr ?_)|(refine Qbx hqa ?_)|(refine Qc2 qo ?_)|refine zst ?_|refine zbx ?_ ?_|refine zgx ?_ ?_|refine eqR ?_));(all_goals (try (conv=>whnf)))
   all_goals first|(exfalso;omega)|(exfalso;simp at hb;done)|(refine hK _ ?_;rw [← hfin2];unfold ad2;(exact zwL [(0,some 0),(1,some 1),(2,some 2),(3,some 3),(4,some 4),(5,some 5),(6,some 6),(7,some 393536)]))
 ·skip
  rw [if_pos rfl] at hrd
  rw [hrd] at hqa hgo
  clear hrd
  have hqs2:=hqs
  generalize hAV:Qb8 r1.M r1.ck=AV at *
  obtain ⟨M3,O⟩:=AV
  dsimp only at *
  have hx3:=hgk.M.x
  have hc3:=hgk.M.c
  have hs3:=Qaa M3.m
  have hl3:=hgk.ls
  have hos2:=Qbn hos hao
  rw [hgo] at hx3 hc3 hl3
  obtain ⟨r3,hr3⟩:∃ r3,r3=r1.go:=⟨_,rfl⟩
  rw [← hr3] at hK hgk
  rw [hgo] at hr3
  rw [p1] at hr3
  have hes3:r3.es= []:=by rw [hr3]
  have hrl3:r3.M.m.length=nn:=by rw [hr3];exact hal.trans p3
  have hal2:=hal.trans p3
  clear hgo hal hAV hqs2
  cases O with
  | none =>
   dsimp only [Option.toList,oS,oR] at *
   rw [List.append_nil] at hK hos2
   have hfin:∀ RC X LG lgv ol OL,RC=M3.C 5++ [.int .u32 ((r1.ck+1)%4294967296:Nat),.sl 6 0 lgv,.nilsl]→lgv=r1.lg+1→X=wsv M3.m→LG=(r1.LG++ [.int .u64 r1.M.ct,.int .i64 1,.int .u32 r1.ck,.str ⟨#[]⟩])→ol=os.length→OL=OLs os→ad2 s (i+1) ol A0 LG0 QU RC Z X LG OL=ad2 s (i+1) os.length A0 LG0 QU (r3.M.C 5++ [.int .u32 r3.ck,.sl 6 0 r3.lg,.nilsl]) Z (wsv r3.M.m) r3.LG (OLs os):=fun RC X LG lgv ol OL h1 h2 h3 h4 h5 h6=>by rw [h1,h2,h3,h4,h5,h6,hr3]
   have hon:os.length≤i+1:=by omega
   have hck1:IntKind.u32.wrap ((r1.ck:Int)+1)=(((r1.ck+1)%4294967296:Nat):Int):=by rw [Qbo];omega
   generalize hckn:(r1.ck+1)%4294967296=ckn at *
   clear hr3 hos hes
   generalize hOLo:OLs os=OL at *
   generalize hoLo:os.length=ol at *
   replace hO1:OL.length=ol*ty215.size:=hO1
   obtain ⟨LG3,hLG3⟩:∃ L,r1.LG++ [.int .u64 r1.M.ct,.int .i64 1,.int .u32 r1.ck,.str ⟨#[]⟩]=L:=⟨_,rfl⟩
   rw [hLG3] at hqa hl3 hfin
   replace hll:r1.LG.length=r1.lg*ty164.size:=hll
   obtain ⟨M,ck1,lg,LG,es1⟩:=r
   obtain ⟨M2,ck2,lg2,LG2,es2⟩:=r1
   dsimp only [eT,Ev.C] at *
   subst hdc
   clear hdue p2
   generalize hXe:wsv M.m=Xe at *
   generalize hXf:wsv M2.m=Xf at *
   generalize hXg:wsv M3.m=Xg at *
   obtain ⟨xe,pce,ce,me,kse,tae,tde,tfe,de,ne,bte,bge,cte,wte,hte⟩:=M
   dsimp only at *
   obtain ⟨xe_0,xe_1,xe_2,xe_3,xe_4,xe_5,xe_6,xe_7,xe_8,xe_9,xe_10,xe_11,xe_12,xe_13,xe_14,xe_15,rfl⟩:=Qaq hx
   obtain ⟨ce_0,ce_1,ce_2,ce_3,ce_4,ce_5,ce_6,ce_7,rfl⟩:=QaJ hc
   obtain ⟨de_0,de_1,de_2,de_3,de_4,de_5,de_6,de_7⟩:=de
   obtain ⟨ne_0,ne_1,ne_2,ne_3,ne_4,ne_5⟩:=ne
   obtain ⟨xf,pcf,cf,mf,ksf,taf,tdf,tff,df,nf,btf,bgf,ctf,wtf,htf⟩:=M2
   dsimp only at *
   obtain ⟨xf_0,xf_1,xf_2,xf_3,xf_4,xf_5,xf_6,xf_7,xf_8,xf_9,xf_10,xf_11,xf_12,xf_13,xf_14,xf_15,rfl⟩:=Qaq hx2
   obtain ⟨cf_0,cf_1,cf_2,cf_3,cf_4,cf_5,cf_6,cf_7,rfl⟩:=QaJ hc2
   obtain ⟨df_0,df_1,df_2,df_3,df_4,df_5,df_6,df_7⟩:=df
   obtain ⟨nf_0,nf_1,nf_2,nf_3,nf_4,nf_5⟩:=nf
   obtain ⟨xg,pcg,cg,mg,ksg,tag,tdg,tfg,dg,ng,btg,bgg,ctg,wtg,htg⟩:=M3
   dsimp only at *
   obtain ⟨xg_0,xg_1,xg_2,xg_3,xg_4,xg_5,xg_6,xg_7,xg_8,xg_9,xg_10,xg_11,xg_12,xg_13,xg_14,xg_15,rfl⟩:=Qaq hx3
   obtain ⟨cg_0,cg_1,cg_2,cg_3,cg_4,cg_5,cg_6,cg_7,rfl⟩:=QaJ hc3
   obtain ⟨dg_0,dg_1,dg_2,dg_3,dg_4,dg_5,dg_6,dg_7⟩:=dg
   obtain ⟨ng_0,ng_1,ng_2,ng_3,ng_4,ng_5⟩:=ng
   have hfin2:=hfin _ Xg LG3 (lg2+1) ol OL rfl rfl rfl rfl rfl rfl
   clear hfin
   unfold ad2
   simp only [Qaf,List.cons_append,List.nil_append,Mc.C,Mc.D,Dk.C,Nk.C,hrl,p3,hal2] at *
   (repeat' ((conv=>whnf);first|(intro hb;first|exact zk3 hb|(try (replace hb:=zn0 hb)))|(with_reducible first|refine zv q2 ?_|refine zv hck1 ?_)|(apply Sd.mk; · exact ⟨rfl,rfl,hll,bnd (by omega) (by decide),by omega⟩)|((with_reducible apply Vl.mk (α:=List SV)); · with_reducible exact hLG3)|(apply Sd.mk; · first|exact ⟨rfl,rfl,hO1,bnd (by omega) (by decide),by omega⟩|exact ⟨rfl,rfl,hO1⟩)|((with_reducible apply Vl.mk (α:=List SV)); · with_reducible exact List.append_nil OL)|(refine zpu qL ?_)|(refine zpu qd ?_)|(refine Qay hqs ?_)|(refine Qay hqr ?_)|(refine Qbx hqa ?_)|(refine Qc2 qo ?_)|refine zst ?_|refine zbx ?_ ?_|refine zgx ?_ ?_|refine eqR ?_));(all_goals (try (conv=>whnf)))
   all_goals first|(exfalso;omega)|(exfalso;simp at hb;done)|(refine hK _ ?_;rw [← hfin2];unfold ad2;(exact zwL [(0,some 0),(1,some 1),(2,some 2),(3,some 3),(4,some 4),(5,some 5),(6,some 393856),(7,some 459072)]))
  | some l =>
   obtain ⟨hl4,hls,hlk⟩:=hao l rfl
   have hOa:=Qdb os l
   have hol2:(os++ [l]).length=os.length+1:=by simp
   dsimp only [Option.toList,oS,oR] at *
   have hfin:∀ RC X LG lgv ol OL,RC=M3.C 5++ [.int .u32 ((r1.ck+1)%4294967296:Nat),.sl 6 0 lgv,.nilsl]→lgv=r1.lg+1→X=wsv M3.m→LG=(r1.LG++ [.int .u64 r1.M.ct,.int .i64 1,.int .u32 r1.ck,.str ⟨#[]⟩])→ol=(os++ [l]).length→OL=OLs (os++ [l])→ad2 s (i+1) ol A0 LG0 QU RC Z X LG OL=ad2 s (i+1) (os++ [l]).length A0 LG0 QU (r3.M.C 5++ [.int .u32 r3.ck,.sl 6 0 r3.lg,.nilsl]) Z (wsv r3.M.m) r3.LG (OLs (os++ [l])):=fun RC X LG lgv ol OL h1 h2 h3 h4 h5 h6=>by rw [h1,h2,h3,h4,h5,h6,hr3]
   have hon:(os++ [l]).length≤i+1:=by rw [hol2];omega
   have hck1:IntKind.u32.wrap ((r1.ck:Int)+1)=(((r1.ck+1)%4294967296:Nat):Int):=by rw [Qbo];omega
   generalize hckn:(r1.ck+1)%4294967296=ckn at *
   clear hr3 hos hes
   rw [hOa,hol2] at hfin hK
   generalize hOLo:OLs os=OL at *
   generalize hoLo:os.length=ol at *
   have hOap:∃ OL2,OL++l=OL2:=⟨_,rfl⟩
   obtain ⟨OL2,hOap⟩:=hOap
   have hO2b:Qau OL2=true:=by rw [← hOap];exact QaI hO2 hls
   rw [hOap] at hfin hK
   replace hO1:OL.length=ol*ty215.size:=hO1
   obtain ⟨LG3,hLG3⟩:∃ L,r1.LG++ [.int .u64 r1.M.ct,.int .i64 1,.int .u32 r1.ck,.str ⟨#[]⟩]=L:=⟨_,rfl⟩
   rw [hLG3] at hqa hl3 hfin
   replace hll:r1.LG.length=r1.lg*ty164.size:=hll
   obtain ⟨M,ck1,lg,LG,es1⟩:=r
   obtain ⟨M2,ck2,lg2,LG2,es2⟩:=r1
   dsimp only [eT,Ev.C] at *
   subst hdc
   clear hdue p2
   generalize hXe:wsv M.m=Xe at *
   generalize hXf:wsv M2.m=Xf at *
   generalize hXg:wsv M3.m=Xg at *
   obtain ⟨xe,pce,ce,me,kse,tae,tde,tfe,de,ne,bte,bge,cte,wte,hte⟩:=M
   dsimp only at *
   obtain ⟨xe_0,xe_1,xe_2,xe_3,xe_4,xe_5,xe_6,xe_7,xe_8,xe_9,xe_10,xe_11,xe_12,xe_13,xe_14,xe_15,rfl⟩:=Qaq hx
   obtain ⟨ce_0,ce_1,ce_2,ce_3,ce_4,ce_5,ce_6,ce_7,rfl⟩:=QaJ hc
   obtain ⟨de_0,de_1,de_2,de_3,de_4,de_5,de_6,de_7⟩:=de
   obtain ⟨ne_0,ne_1,ne_2,ne_3,ne_4,ne_5⟩:=ne
   obtain ⟨xf,pcf,cf,mf,ksf,taf,tdf,tff,df,nf,btf,bgf,ctf,wtf,htf⟩:=M2
   dsimp only at *
   obtain ⟨xf_0,xf_1,xf_2,xf_3,xf_4,xf_5,xf_6,xf_7,xf_8,xf_9,xf_10,xf_11,xf_12,xf_13,xf_14,xf_15,rfl⟩:=Qaq hx2
   obtain ⟨cf_0,cf_1,cf_2,cf_3,cf_4,cf_5,cf_6,cf_7,rfl⟩:=QaJ hc2
   obtain ⟨df_0,df_1,df_2,df_3,df_4,df_5,df_6,df_7⟩:=df
   obtain ⟨nf_0,nf_1,nf_2,nf_3,nf_4,nf_5⟩:=nf
   obtain ⟨xg,pcg,cg,mg,ksg,tag,tdg,tfg,dg,ng,btg,bgg,ctg,wtg,htg⟩:=M3
   dsimp only at *
   obtain ⟨xg_0,xg_1,xg_2,xg_3,xg_4,xg_5,xg_6,xg_7,xg_8,xg_9,xg_10,xg_11,xg_12,xg_13,xg_14,xg_15,rfl⟩:=Qaq hx3
   obtain ⟨cg_0,cg_1,cg_2,cg_3,cg_4,cg_5,cg_6,cg_7,rfl⟩:=QaJ hc3
   obtain ⟨dg_0,dg_1,dg_2,dg_3,dg_4,dg_5,dg_6,dg_7⟩:=dg
   obtain ⟨ng_0,ng_1,ng_2,ng_3,ng_4,ng_5⟩:=ng
   have hfin2:=hfin _ Xg LG3 (lg2+1) (ol+1) OL2 rfl rfl rfl rfl rfl rfl
   clear hfin
   unfold ad2
   simp only [Qaf,List.cons_append,List.nil_append,Mc.C,Mc.D,Dk.C,Nk.C,hrl,p3,hal2] at *
   (repeat' ((conv=>whnf);first|(intro hb;first|exact zk3 hb|(try (replace hb:=zn0 hb)))|(with_reducible first|refine zv q2 ?_|refine zv hck1 ?_)|(apply Sd.mk; · exact ⟨rfl,rfl,hll,bnd (by omega) (by decide),by omega⟩)|((with_reducible apply Vl.mk (α:=List SV)); · with_reducible exact hLG3)|(apply Sd.mk; · exact ⟨rfl,rfl,hO1,bnd (by omega) (by decide),by omega⟩)|(apply Sk.mk; · exact Qbs l hl4 hlk)|((with_reducible apply Vl.mk (α:=List SV)); · with_reducible exact hOap)|(refine zpu qL ?_)|(refine zpu qd ?_)|(refine Qay hqs ?_)|(refine Qay hqr ?_)|(refine Qbx hqa ?_)|(refine Qc2 qo ?_)|refine zst ?_|refine zbx ?_ ?_|refine zgx ?_ ?_|refine eqR ?_));(all_goals (try (conv=>whnf)))
   all_goals first|(exfalso;omega)|(exfalso;simp at hb;done)|(refine hK _ ?_;rw [← hfin2];unfold ad2;(exact zwL [(0,some 0),(1,some 1),(2,some 2),(3,some 3),(4,some 4),(5,some 5),(6,some 393856),(7,some 459072)]))
end Go.Proofs.YtjgikeckbeeehaaGreat
