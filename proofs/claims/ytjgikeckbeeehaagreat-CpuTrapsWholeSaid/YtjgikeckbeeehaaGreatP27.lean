import Derived.Test.YtjgikeckbeeehaaGreatP25
import Derived.Test.YtjgikeckbeeehaaGreatP26
set_option linter.unusedSimpArgs false
set_option linter.unusedVariables false
set_option maxHeartbeats 100000000
set_option maxRecDepth 100000
namespace Go.Proofs.YtjgikeckbeeehaaGreat
open Go Go.RowKit
theorem QrH (M:Mc) (hM:M.ok):Fn Tryz.prog 79 [.agg (M.C 0)] [⟨false,1,wsv M.m⟩]
  (· =⟨.a (.agg (Rk.C ⟨M,0,0,[],[]⟩ 1)),[],[⟨true,1,wsv M.m⟩,⟨true,4,[]⟩,⟨true,3,[]⟩]⟩):=by
 have q:=Qa1 M hM
 have hsx:=Qaa M.m
 dsimp only [Rk.C,Rk.T,List.length_nil] at *
 obtain ⟨hx,hc,hxr,hcr,hpr,hmr,_,hdk,hnk,hdv⟩:=hM
 obtain ⟨_,_,_,m,_,_,_,_,d,n,_,_,_,_,_⟩:=M
 dsimp only at *
 obtain ⟨_,_,_,_,_,_,_,_,_,_,_,_,_,_,_,_,rfl⟩:=Qaq hx
 obtain ⟨_,_,_,_,_,_,_,_,rfl⟩:=QaJ hc
 obtain ⟨_,_,_,_,_,_,_,_⟩:=d
 obtain ⟨_,_,_,_,_,_⟩:=n
 dsimp only [Mc.C,Mc.D,Dk.C,Nk.C,Dk.ok,Nk.ok] at *
 generalize hnn:m.length=nn at *
 generalize hX:wsv m=XX at *
 clear hxr hcr hdk hnk hmr hdv hpr
 simp only [Qaf,List.cons_append,List.nil_append,hnn] at *
 refine fnW Tryz.func79 ?_
 (repeat' ((conv=>whnf);first|(intro hb;first|exact zk3 hb|(try (replace hb:=zn0 hb)))|((with_reducible apply Ge.mk (α:=List SV)); · (refine Qt5 ?_);exact rfl)|(refine Qay q ?_)|refine zst ?_|refine zbx ?_ ?_|refine zgx ?_ ?_|refine eqR ?_));(all_goals (try (conv=>whnf)))
 all_goals first|(exfalso;omega)|(exfalso;simp at hb;done)|(apply Fin.mk (m:= [(0,some 0),(1,some _),(2,none),(3,none)]);(focus exact rfl);(all_goals ((try (show HlS _ _ [] _));first|(exact aFi)|exact rfl)))
theorem QhB (M:Mc) (hM:M.ok):(Rk.mk M 0 0 [] []).ok 0:=⟨hM,by show (0:Nat)<4294967296;decide,rfl,rfl,rfl,Nat.le_refl 0,Nat.zero_le _,fun e h=>by cases h⟩
def Rk.off (r:Rk) (e:Ev):Rk :=
 if (QbA r.M e.k e.n e.s).2=true then ⟨(QbA r.M e.k e.n e.s).1,r.ck,r.lg+1,r.LG++(.int .u64 (QbA r.M e.k e.n e.s).1.ct::e.C),r.es⟩
 else ⟨(QbA r.M e.k e.n e.s).1,r.ck,r.lg,r.LG,r.es⟩
theorem Qen (r:Rk) (e:Ev) (B:Nat) (h:r.ok B) (he:e.ok):(r.off e).ok (B+1):=by
 obtain ⟨hM,hck,hll,hls,hlk,_,hql,hqe⟩:=h
 have hA:=QeK r.M hM e.k e.n he.1 e.s
 unfold Rk.off
 split
 ·refine ⟨hA,hck,?_,?_,?_,by dsimp only;omega,hql,hqe⟩
  ·dsimp only
   rw [List.length_append,hll]
   show _+4=_
   omega
  ·exact QaI hls rfl
  ·exact Qbq hlk rfl
 ·exact ⟨hA,hck,hll,hls,hlk,by dsimp only;omega,hql,hqe⟩
theorem Qb9 (r:Rk) (e:Ev):(r.off e).es=r.es∧(r.off e).ck=r.ck∧(r.off e).M.m.length=r.M.m.length:=by
 unfold Rk.off
 split<;>exact ⟨rfl,rfl,Qf6 _ _ _ _⟩
theorem Qj1 (r:Rk) (hr:r.ok 1000000000) (e:Ev) (he:e.ok) (hok:(QbA r.M e.k e.n e.s).2=false):Fn Tryz.prog 116 [.s (.ptr 0 0),.agg e.C] [⟨true,1,r.M.C 1++ [.int .u32 r.ck,.sl 2 0 r.lg,.sl 3 0 r.es.length]⟩,⟨true,1,wsv r.M.m⟩,⟨true,4,r.LG⟩,⟨false,3,evs r.es⟩]
  (· =⟨.tup [],[(0,some ⟨true,1,(r.off e).M.C 1++ [.int .u32 r.ck,.sl 2 0 (r.off e).lg,.sl 3 0 r.es.length]⟩),(1,some ⟨true,1,wsv (r.off e).M.m⟩),(2,some ⟨true,4,(r.off e).LG⟩)],[]⟩):=by
 have hck:=Qen r e 1000000000 hr he
 obtain ⟨hM,_,_,hls,_,_,_,hqe⟩:=hr
 have q:=QgL r.M hM e.k e.n he.1 e.s he.2 r.ck r.lg r.es.length r.LG (evs r.es) hls (QaY r.es)
 have hes:=QaY r.es
 have hsx:=Qaa r.M.m
 have hs2:=Qaa (r.off e).M.m
 have hsL:=hck.ls
 have hxl:=hck.M.x
 have hcl:=hck.M.c
 have hml:=(Qb9 r e).2.2
 have hMe:(QbA r.M e.k e.n e.s).1=(r.off e).M:=by unfold Rk.off;split<;>rfl
 have h1:(QbA r.M e.k e.n e.s).2=true→(r.off e).lg=r.lg+1∧r.LG++(.int .u64 (r.off e).M.ct::e.C)=(r.off e).LG:=fun h=>by unfold Rk.off;rw [if_pos h];exact ⟨rfl,rfl⟩
 have h2:(QbA r.M e.k e.n e.s).2=false→(r.off e).lg=r.lg∧r.LG=(r.off e).LG:=fun h=>by unfold Rk.off;rw [if_neg (by rw [h];decide)];exact ⟨rfl,rfl⟩
 rw [hMe] at q
 generalize (QbA r.M e.k e.n e.s).2=ok at *
 clear hck hMe
 generalize (r.off e).M=M2 at *
 generalize (r.off e).lg=lg2 at *
 generalize (r.off e).LG=LG2 at *
 obtain ⟨M,ck,lg,LG,es⟩:=r
 obtain ⟨ek,en,e_s⟩:=e
 dsimp only [Ev.C] at *
 clear hqe he
 generalize evs es=QU at *
 generalize es.length=qu at *
 obtain ⟨_,_,_,m',_,_,_,_,d',n',_,_,_,_,_⟩:=M2
 dsimp only at *
 obtain ⟨_,_,_,_,_,_,_,_,_,_,_,_,_,_,_,_,rfl⟩:=Qaq hxl
 obtain ⟨_,_,_,_,_,_,_,_,rfl⟩:=QaJ hcl
 obtain ⟨_,_,_,_,_,_,_,_⟩:=d'
 obtain ⟨_,_,_,_,_,_⟩:=n'
 obtain ⟨hx,hc,hxr,hcr,hpr,hmr,hml,hdk,hnk,hdv⟩:=hM
 obtain ⟨x,_,c,m,_,_,_,_,d,n,_,_,ct,_,_⟩:=M
 dsimp only at *
 obtain ⟨_,_,_,_,_,_,_,_,_,_,_,_,_,_,_,_,rfl⟩:=Qaq hx
 obtain ⟨_,_,_,_,_,_,_,_,rfl⟩:=QaJ hc
 obtain ⟨_,_,_,_,_,_,_,_⟩:=d
 obtain ⟨_,_,_,_,_,_⟩:=n
 dsimp only [Mc.C,Mc.D,Dk.C,Nk.C,Dk.ok,Nk.ok] at *
 simp only [Qaf,List.cons_append,List.nil_append,Mc.C,Mc.D,Dk.C,Nk.C] at *
 generalize hnn:m.length=nn at *
 generalize hnn2:m'.length=nn2 at *
 subst hml
 generalize hX:wsv m=XX at *
 generalize hX2:wsv m'=X2 at *
 clear hxr hcr hdk hnk hmr hdv hpr
 subst hok
 obtain ⟨rfl,rfl⟩:=h2 rfl
 clear h1 h2
 refine fnW Tryz.func116 ?_
 (repeat' ((conv=>whnf);first|(intro hb;first|exact zk3 hb|(try (replace hb:=zn0 hb)))|(refine Qie q ?_)|refine zst ?_|refine zbx ?_ ?_|refine zgx ?_ ?_|refine eqR ?_));(all_goals (try (conv=>whnf)))
 all_goals exact Qsq
theorem Qin (r:Rk) (hr:r.ok 1000000000) (e:Ev) (he:e.ok) (hok:(QbA r.M e.k e.n e.s).2=true):Fn Tryz.prog 116 [.s (.ptr 0 0),.agg e.C] [⟨true,1,r.M.C 1++ [.int .u32 r.ck,.sl 2 0 r.lg,.sl 3 0 r.es.length]⟩,⟨true,1,wsv r.M.m⟩,⟨true,4,r.LG⟩,⟨false,3,evs r.es⟩]
  (· =⟨.tup [],[(0,some ⟨true,1,(r.off e).M.C 1++ [.int .u32 r.ck,.sl 4 0 (r.off e).lg,.sl 3 0 r.es.length]⟩),(1,some ⟨true,1,wsv (r.off e).M.m⟩),(2,none)],[⟨true,4,(r.off e).LG⟩]⟩):=by
 have hck:=Qen r e 1000000000 hr he
 obtain ⟨hM,_,hll,hls,_,_,_,hqe⟩:=hr
 have q:=QgL r.M hM e.k e.n he.1 e.s he.2 r.ck r.lg r.es.length r.LG (evs r.es) hls (QaY r.es)
 have hes:=QaY r.es
 have hsx:=Qaa r.M.m
 have hs2:=Qaa (r.off e).M.m
 have hsL:=hck.ls
 have hxl:=hck.M.x
 have hcl:=hck.M.c
 have hml:=(Qb9 r e).2.2
 have hMe:(QbA r.M e.k e.n e.s).1=(r.off e).M:=by unfold Rk.off;split<;>rfl
 have h1:(QbA r.M e.k e.n e.s).2=true→(r.off e).lg=r.lg+1∧r.LG++(.int .u64 (r.off e).M.ct::e.C)=(r.off e).LG:=fun h=>by unfold Rk.off;rw [if_pos h];exact ⟨rfl,rfl⟩
 have h2:(QbA r.M e.k e.n e.s).2=false→(r.off e).lg=r.lg∧r.LG=(r.off e).LG:=fun h=>by unfold Rk.off;rw [if_neg (by rw [h];decide)];exact ⟨rfl,rfl⟩
 rw [hMe] at q
 generalize (QbA r.M e.k e.n e.s).2=ok at *
 clear hck hMe
 generalize (r.off e).M=M2 at *
 generalize (r.off e).lg=lg2 at *
 generalize (r.off e).LG=LG2 at *
 obtain ⟨M,ck,lg,LG,es⟩:=r
 obtain ⟨ek,en,e_s⟩:=e
 dsimp only [Ev.C] at *
 clear hqe he
 generalize evs es=QU at *
 generalize es.length=qu at *
 obtain ⟨_,_,_,m',_,_,_,_,d',n',_,_,_,_,_⟩:=M2
 dsimp only at *
 obtain ⟨_,_,_,_,_,_,_,_,_,_,_,_,_,_,_,_,rfl⟩:=Qaq hxl
 obtain ⟨_,_,_,_,_,_,_,_,rfl⟩:=QaJ hcl
 obtain ⟨_,_,_,_,_,_,_,_⟩:=d'
 obtain ⟨_,_,_,_,_,_⟩:=n'
 obtain ⟨hx,hc,hxr,hcr,hpr,hmr,hml,hdk,hnk,hdv⟩:=hM
 obtain ⟨x,_,c,m,_,_,_,_,d,n,_,_,ct,_,_⟩:=M
 dsimp only at *
 obtain ⟨_,_,_,_,_,_,_,_,_,_,_,_,_,_,_,_,rfl⟩:=Qaq hx
 obtain ⟨_,_,_,_,_,_,_,_,rfl⟩:=QaJ hc
 obtain ⟨_,_,_,_,_,_,_,_⟩:=d
 obtain ⟨_,_,_,_,_,_⟩:=n
 dsimp only [Mc.C,Mc.D,Dk.C,Nk.C,Dk.ok,Nk.ok] at *
 simp only [Qaf,List.cons_append,List.nil_append,Mc.C,Mc.D,Dk.C,Nk.C] at *
 generalize hnn:m.length=nn at *
 generalize hnn2:m'.length=nn2 at *
 subst hml
 generalize hX:wsv m=XX at *
 generalize hX2:wsv m'=X2 at *
 clear hxr hcr hdk hnk hmr hdv hpr
 subst hok
 obtain ⟨rfl,ha⟩:=h1 rfl
 clear h1 h2
 replace hll:LG.length=lg*ty164.size:=hll
 refine fnW Tryz.func116 ?_
 (repeat' ((conv=>whnf);first|(intro hb;first|exact zk3 hb|(try (replace hb:=zn0 hb)))|(apply Sd.mk; · exact ⟨rfl,rfl,hll,bnd (by omega) (by decide),by omega⟩)|((with_reducible apply Vl.mk (α:=List SV)); · with_reducible exact ha)|(refine Qie q ?_)|refine zst ?_|refine zbx ?_ ?_|refine zgx ?_ ?_|refine eqR ?_));(all_goals (try (conv=>whnf)))
 all_goals first|(exfalso;omega)|(exfalso;simp at hb;done)|(apply Fin.mk (m:= [(0,some 0),(1,some 1),(2,some 2),(3,some 3),(4,some 197440)]);(focus exact rfl);(all_goals ((try (show HlS _ _ [] _));first|(exact aFi)|exact rfl)))
theorem QjV (r:Rk) (hr:r.ok 1000000000) (e:Ev) (he:e.ok) (hok:(QbA r.M e.k e.n e.s).2=false):Fn Tryz.prog 116 [.s (.ptr 0 0),.agg e.C] [⟨true,1,r.M.C 1++ [.int .u32 r.ck,.sl 2 0 r.lg,.nilsl]⟩,⟨true,1,wsv r.M.m⟩,⟨true,4,r.LG⟩]
  (· =⟨.tup [],[(0,some ⟨true,1,(r.off e).M.C 1++ [.int .u32 r.ck,.sl 2 0 (r.off e).lg,.nilsl]⟩),(1,some ⟨true,1,wsv (r.off e).M.m⟩),(2,some ⟨true,4,(r.off e).LG⟩)],[]⟩):=by
 have hck:=Qen r e 1000000000 hr he
 obtain ⟨hM,_,_,hls,_,_,_,hqe⟩:=hr
 have q:=Qgn r.M hM e.k e.n he.1 e.s he.2 r.ck r.lg r.LG hls
 have hes:=QaY r.es
 have hsx:=Qaa r.M.m
 have hs2:=Qaa (r.off e).M.m
 have hsL:=hck.ls
 have hxl:=hck.M.x
 have hcl:=hck.M.c
 have hml:=(Qb9 r e).2.2
 have hMe:(QbA r.M e.k e.n e.s).1=(r.off e).M:=by unfold Rk.off;split<;>rfl
 have h1:(QbA r.M e.k e.n e.s).2=true→(r.off e).lg=r.lg+1∧r.LG++(.int .u64 (r.off e).M.ct::e.C)=(r.off e).LG:=fun h=>by unfold Rk.off;rw [if_pos h];exact ⟨rfl,rfl⟩
 have h2:(QbA r.M e.k e.n e.s).2=false→(r.off e).lg=r.lg∧r.LG=(r.off e).LG:=fun h=>by unfold Rk.off;rw [if_neg (by rw [h];decide)];exact ⟨rfl,rfl⟩
 rw [hMe] at q
 generalize (QbA r.M e.k e.n e.s).2=ok at *
 clear hck hMe
 generalize (r.off e).M=M2 at *
 generalize (r.off e).lg=lg2 at *
 generalize (r.off e).LG=LG2 at *
 obtain ⟨M,ck,lg,LG,es⟩:=r
 obtain ⟨ek,en,e_s⟩:=e
 dsimp only [Ev.C] at *
 clear hqe he
 generalize evs es=QU at *
 generalize es.length=qu at *
 obtain ⟨_,_,_,m',_,_,_,_,d',n',_,_,_,_,_⟩:=M2
 dsimp only at *
 obtain ⟨_,_,_,_,_,_,_,_,_,_,_,_,_,_,_,_,rfl⟩:=Qaq hxl
 obtain ⟨_,_,_,_,_,_,_,_,rfl⟩:=QaJ hcl
 obtain ⟨_,_,_,_,_,_,_,_⟩:=d'
 obtain ⟨_,_,_,_,_,_⟩:=n'
 obtain ⟨hx,hc,hxr,hcr,hpr,hmr,hml,hdk,hnk,hdv⟩:=hM
 obtain ⟨x,_,c,m,_,_,_,_,d,n,_,_,ct,_,_⟩:=M
 dsimp only at *
 obtain ⟨_,_,_,_,_,_,_,_,_,_,_,_,_,_,_,_,rfl⟩:=Qaq hx
 obtain ⟨_,_,_,_,_,_,_,_,rfl⟩:=QaJ hc
 obtain ⟨_,_,_,_,_,_,_,_⟩:=d
 obtain ⟨_,_,_,_,_,_⟩:=n
 dsimp only [Mc.C,Mc.D,Dk.C,Nk.C,Dk.ok,Nk.ok] at *
 simp only [Qaf,List.cons_append,List.nil_append,Mc.C,Mc.D,Dk.C,Nk.C] at *
 generalize hnn:m.length=nn at *
 generalize hnn2:m'.length=nn2 at *
 subst hml
 generalize hX:wsv m=XX at *
 generalize hX2:wsv m'=X2 at *
 clear hxr hcr hdk hnk hmr hdv hpr
 subst hok
 obtain ⟨rfl,rfl⟩:=h2 rfl
 clear h1 h2
 refine fnW Tryz.func116 ?_
 (repeat' ((conv=>whnf);first|(intro hb;first|exact zk3 hb|(try (replace hb:=zn0 hb)))|(refine Qbx q ?_)|refine zst ?_|refine zbx ?_ ?_|refine zgx ?_ ?_|refine eqR ?_));(all_goals (try (conv=>whnf)))
 all_goals exact QeH
theorem QhC (r:Rk) (hr:r.ok 1000000000) (e:Ev) (he:e.ok) (hok:(QbA r.M e.k e.n e.s).2=true):Fn Tryz.prog 116 [.s (.ptr 0 0),.agg e.C] [⟨true,1,r.M.C 1++ [.int .u32 r.ck,.sl 2 0 r.lg,.nilsl]⟩,⟨true,1,wsv r.M.m⟩,⟨true,4,r.LG⟩]
  (· =⟨.tup [],[(0,some ⟨true,1,(r.off e).M.C 1++ [.int .u32 r.ck,.sl 3 0 (r.off e).lg,.nilsl]⟩),(1,some ⟨true,1,wsv (r.off e).M.m⟩),(2,none)],[⟨true,4,(r.off e).LG⟩]⟩):=by
 have hck:=Qen r e 1000000000 hr he
 obtain ⟨hM,_,hll,hls,_,_,_,hqe⟩:=hr
 have q:=Qgn r.M hM e.k e.n he.1 e.s he.2 r.ck r.lg r.LG hls
 have hes:=QaY r.es
 have hsx:=Qaa r.M.m
 have hs2:=Qaa (r.off e).M.m
 have hsL:=hck.ls
 have hxl:=hck.M.x
 have hcl:=hck.M.c
 have hml:=(Qb9 r e).2.2
 have hMe:(QbA r.M e.k e.n e.s).1=(r.off e).M:=by unfold Rk.off;split<;>rfl
 have h1:(QbA r.M e.k e.n e.s).2=true→(r.off e).lg=r.lg+1∧r.LG++(.int .u64 (r.off e).M.ct::e.C)=(r.off e).LG:=fun h=>by unfold Rk.off;rw [if_pos h];exact ⟨rfl,rfl⟩
 have h2:(QbA r.M e.k e.n e.s).2=false→(r.off e).lg=r.lg∧r.LG=(r.off e).LG:=fun h=>by unfold Rk.off;rw [if_neg (by rw [h];decide)];exact ⟨rfl,rfl⟩
 rw [hMe] at q
 generalize (QbA r.M e.k e.n e.s).2=ok at *
 clear hck hMe
 generalize (r.off e).M=M2 at *
 generalize (r.off e).lg=lg2 at *
 generalize (r.off e).LG=LG2 at *
 obtain ⟨M,ck,lg,LG,es⟩:=r
 obtain ⟨ek,en,e_s⟩:=e
 dsimp only [Ev.C] at *
 clear hqe he
 generalize evs es=QU at *
 generalize es.length=qu at *
 obtain ⟨_,_,_,m',_,_,_,_,d',n',_,_,_,_,_⟩:=M2
 dsimp only at *
 obtain ⟨_,_,_,_,_,_,_,_,_,_,_,_,_,_,_,_,rfl⟩:=Qaq hxl
 obtain ⟨_,_,_,_,_,_,_,_,rfl⟩:=QaJ hcl
 obtain ⟨_,_,_,_,_,_,_,_⟩:=d'
 obtain ⟨_,_,_,_,_,_⟩:=n'
 obtain ⟨hx,hc,hxr,hcr,hpr,hmr,hml,hdk,hnk,hdv⟩:=hM
 obtain ⟨x,_,c,m,_,_,_,_,d,n,_,_,ct,_,_⟩:=M
 dsimp only at *
 obtain ⟨_,_,_,_,_,_,_,_,_,_,_,_,_,_,_,_,rfl⟩:=Qaq hx
 obtain ⟨_,_,_,_,_,_,_,_,rfl⟩:=QaJ hc
 obtain ⟨_,_,_,_,_,_,_,_⟩:=d
 obtain ⟨_,_,_,_,_,_⟩:=n
 dsimp only [Mc.C,Mc.D,Dk.C,Nk.C,Dk.ok,Nk.ok] at *
 simp only [Qaf,List.cons_append,List.nil_append,Mc.C,Mc.D,Dk.C,Nk.C] at *
 generalize hnn:m.length=nn at *
 generalize hnn2:m'.length=nn2 at *
 subst hml
 generalize hX:wsv m=XX at *
 generalize hX2:wsv m'=X2 at *
 clear hxr hcr hdk hnk hmr hdv hpr
 subst hok
 obtain ⟨rfl,ha⟩:=h1 rfl
 clear h1 h2
 replace hll:LG.length=lg*ty164.size:=hll
 refine fnW Tryz.func116 ?_
 (repeat' ((conv=>whnf);first|(intro hb;first|exact zk3 hb|(try (replace hb:=zn0 hb)))|(apply Sd.mk; · exact ⟨rfl,rfl,hll,bnd (by omega) (by decide),by omega⟩)|((with_reducible apply Vl.mk (α:=List SV)); · with_reducible exact ha)|(refine Qbx q ?_)|refine zst ?_|refine zbx ?_ ?_|refine zgx ?_ ?_|refine eqR ?_));(all_goals (try (conv=>whnf)))
 all_goals first|(exfalso;omega)|(exfalso;simp at hb;done)|(apply Fin.mk (m:= [(0,some 0),(1,some 1),(2,some 2),(3,some 197440)]);(focus exact rfl);(all_goals ((try (show HlS _ _ [] _));first|(exact aFi)|exact rfl)))
def QjK (s:Int):Int:=Qqd (Qpz s [0]) [4000]
theorem Qg8 (s:Int):0≤QjK s∧QjK s≤4000:=by
 unfold QjK
 simp only [Qqd,QAA,Qpz,Qt0]
 split<;>split<;>omega
theorem QkT (s:Int):Fn Tryz.prog 117 [.s (.int .i64 s)] [] (· =⟨.a (.s (.int .i64 (QjK s))),[],[]⟩):=by
 unfold QjK
 refine fnW Tryz.func117 ?_
 (repeat' ((conv=>whnf);first|(intro hb;first|exact zk3 hb|(try (replace hb:=zn0 hb)))|refine zst ?_|refine zbx ?_ ?_|refine zgx ?_ ?_|refine eqR ?_));(all_goals (try (conv=>whnf)))
 all_goals exact zF_
def QuY (e:Ev):Bool:=decide ((e.k=1∨e.k=6)∧noD e.s=true∨e.k=2∧e.n=0∧noD e.s=true∨e.k=3∧e.n≤255∧noD e.s=true∨e.k=4∧e.n≤1∧(noD e.s=true∨e.n=1∧e.s.size=128)∨e.k=5∧e.n=0∧1≤e.s.size∧e.s.size≤128)
theorem Qm8 (e:Ev):Fn Tryz.prog 115 [.agg e.C] [] (· =⟨.a (.s (.bool (QuY e))),[],[]⟩):=by
 obtain ⟨k,n,s⟩:=e
 dsimp only [Ev.C]
 generalize hB:QuY ⟨k,n,s⟩=B
 unfold QuY at hB
 dsimp only at hB
 have hno:(s.toList==(⟨#[]⟩:ByteArray).toList)=noD s:=rfl
 generalize noD s=nd at *
 refine fnW Tryz.func115 ?_
 (repeat' ((conv=>whnf);first|(intro hb;first|exact zk3 hb|(try (replace hb:=zn0 hb)))|((with_reducible apply Vl.mk (α:=Bool)); · with_reducible exact hno)|refine zst ?_|refine zbx ?_ ?_|refine zgx ?_ ?_|refine eqR ?_));(all_goals (try (conv=>whnf)))
 all_goals first|(exfalso;omega)|(exfalso;simp at hb;done)|(refine Qej ?_ ?_;(focus (exact zf_));rw [← hB];symm;first|(exact decide_eq_false (by omega))|(rw [Bool.eq_iff_iff];simp;done)|(rw [Bool.eq_iff_iff];simp;omega)|(rw [Bool.eq_iff_iff];simp;grind))
def Rk.arr (r:Rk) (e:Ev):Rk × Bool :=
 if QuY e=false∨e.k=1∨16≤r.es.length then (r,false) else (⟨r.M,r.ck,r.lg,r.LG,r.es++ [e]⟩,true)
theorem QuJ (r:Rk) (e:Ev) (B:Nat) (h:r.ok B) (he:e.ok):(r.arr e).1.ok B:=by
 have k:=h
 obtain ⟨hM,hck,hll,hls,hlk,hlb,_,hqe⟩:=h
 unfold Rk.arr
 split
 ·exact k
 ·rename_i hn
  refine ⟨hM,hck,hll,hls,hlk,hlb,?_,?_⟩
  ·dsimp only
   rw [List.length_append]
   show _+1≤16
   omega
  ·intro x hx
   rcases List.mem_append.1 hx with h|h
   ·exact hqe x h
   ·rcases List.mem_singleton.1 h with rfl
    exact he
theorem QsO (r:Rk) (hr:r.ok 1000000000) (e:Ev) (he:e.ok):Fn Tryz.prog 101 [.agg (r.C 0),.agg e.C] [⟨false,1,wsv r.M.m⟩,⟨false,4,r.LG⟩,⟨false,3,evs r.es⟩]
  (· =⟨.tup [.agg ((r.arr e).1.C 3),.s (.bool (r.arr e).2)],[],[⟨true,1,wsv (r.arr e).1.M.m⟩,⟨true,4,(r.arr e).1.LG⟩,⟨true,3,evs (r.arr e).1.es⟩]⟩):=by
 have q0:=Qhv r hr
 have q1:=Qm8 e
 obtain ⟨hM,_,_,_,_,_,_,hqe⟩:=hr
 have hes:=QaY r.es
 have hsx:=Qaa r.M.m
 have hel:(evs r.es).length=r.es.length*ty147.size:=QfJ r.es
 have hes2:=QaY (r.es++ [e])
 have hap:evs r.es++e.C=evs (r.es++ [e]):=by rw [Qmw];unfold evs evs;rw [List.append_nil]
 obtain ⟨D,hD⟩:∃ D,r.arr e=D:=⟨_,rfl⟩
 rw [hD]
 unfold Rk.arr at hD
 obtain ⟨M,ck,lg,LG,es⟩:=r
 generalize QuY e=vb at *
 have hle:(es++ [e]).length=es.length+1:=by simp
 dsimp only at *
 generalize hQ2:evs (es++ [e])=QU2 at *
 generalize hQ1:evs es=QU at *
 generalize hl2:(es++ [e]).length=qu2 at *
 obtain ⟨ek,en,e_s⟩:=e
 by_cases hcA:vb=false∨ek=1∨16≤es.length
 ·rw [if_pos hcA] at hD
  subst hD
  dsimp only [Rk.C,Rk.T,Ev.C] at *
  rw [hQ1]
  clear hqe he hQ1 hQ2
  generalize es.length=qu at *
  obtain ⟨hx,hc,hxr,hcr,hpr,hmr,hml,hdk,hnk,hdv⟩:=hM
  obtain ⟨x,pc,c,m,ks,ta,td,tf,d,n,bt,bg,ct,wt,ht⟩:=M
  dsimp only at *
  obtain ⟨x0,x1,x2,x3,x4,x5,x6,x7,x8,x9,x10,x11,x12,x13,x14,x15,rfl⟩:=Qaq hx
  obtain ⟨c0,c1,c2,c3,c4,c5,c6,c7,rfl⟩:=QaJ hc
  obtain ⟨d0,d1,d2,d3,d4,d5,d6,d7⟩:=d
  obtain ⟨n0,n1,n2,n3,n4,n5⟩:=n
  dsimp only [Mc.C,Mc.D,Dk.C,Nk.C,Dk.ok,Nk.ok] at *
  simp only [Qaf,List.cons_append,List.nil_append] at *
  generalize hnn:m.length=nn at *
  generalize hX:wsv m=XX at *
  clear hxr hcr hdk hnk hmr hdv hpr hap hl2 hle
  cases vb
  ·clear hcA
   refine fnW Tryz.func101 ?_
   (repeat' ((conv=>whnf);first|(intro hb;first|exact zk3 hb|(try (replace hb:=zn0 hb)))|((with_reducible apply Vl.mk (α:=List SV)); · (with_reducible refine QgN ?_);exact rfl)|(refine QcG q0 ?_)|(refine zpu q1 ?_)|refine zst ?_|refine zbx ?_ ?_|refine zgx ?_ ?_|refine eqR ?_));(all_goals (try (conv=>whnf)))
   all_goals exact Qdi
  ·by_cases hk:ek=1
   ·subst hk
    refine fnW Tryz.func101 ?_
    (repeat' ((conv=>whnf);first|(intro hb;first|exact zk3 hb|(try (replace hb:=zn0 hb)))|((with_reducible apply Vl.mk (α:=List SV)); · (with_reducible refine QgN ?_);exact rfl)|(refine QcG q0 ?_)|(refine zpu q1 ?_)|refine zst ?_|refine zbx ?_ ?_|refine zgx ?_ ?_|refine eqR ?_));(all_goals (try (conv=>whnf)))
    all_goals exact Qdi
   ·have hq:16≤qu:=by simp only [Bool.true_eq_false,false_or] at hcA;omega
    refine fnW Tryz.func101 ?_
    (repeat' ((conv=>whnf);first|(intro hb;first|exact zk3 hb|(try (replace hb:=zn0 hb)))|((with_reducible apply Vl.mk (α:=List SV)); · (with_reducible refine QgN ?_);exact rfl)|(refine QcG q0 ?_)|(refine zpu q1 ?_)|refine zst ?_|refine zbx ?_ ?_|refine zgx ?_ ?_|refine eqR ?_));(all_goals (try (conv=>whnf)))
    all_goals exact Qdi
 ·rw [if_neg hcA] at hD
  subst hD
  dsimp only [Rk.C,Rk.T,Ev.C] at *
  rw [hQ2,hl2]
  clear hqe he hQ1 hQ2
  generalize es.length=qu at *
  subst hle
  obtain ⟨hx,hc,hxr,hcr,hpr,hmr,hml,hdk,hnk,hdv⟩:=hM
  obtain ⟨x,pc,c,m,ks,ta,td,tf,d,n,bt,bg,ct,wt,ht⟩:=M
  dsimp only at *
  obtain ⟨x0,x1,x2,x3,x4,x5,x6,x7,x8,x9,x10,x11,x12,x13,x14,x15,rfl⟩:=Qaq hx
  obtain ⟨c0,c1,c2,c3,c4,c5,c6,c7,rfl⟩:=QaJ hc
  obtain ⟨d0,d1,d2,d3,d4,d5,d6,d7⟩:=d
  obtain ⟨n0,n1,n2,n3,n4,n5⟩:=n
  dsimp only [Mc.C,Mc.D,Dk.C,Nk.C,Dk.ok,Nk.ok] at *
  simp only [Qaf,List.cons_append,List.nil_append] at *
  generalize hnn:m.length=nn at *
  generalize hX:wsv m=XX at *
  clear hxr hcr hdk hnk hmr hdv hpr
  obtain ⟨hv,hk,hq⟩:vb=true∧ek≠1∧qu<16:=by
   refine ⟨?_,fun h=>hcA (.inr (.inl h)),?_⟩
   ·cases vb
    ·exact absurd (.inl rfl) hcA
    ·rfl
   ·rcases Nat.lt_or_ge qu 16 with h|h
    ·exact h
    ·exact absurd (.inr (.inr h)) hcA
  subst hv
  clear hcA
  refine fnW Tryz.func101 ?_
  (repeat' ((conv=>whnf);first|(intro hb;first|exact zk3 hb|(try (replace hb:=zn0 hb)))|(apply Sd.mk; · exact ⟨rfl,rfl,hel,bnd (by omega) (by decide),by omega⟩)|((with_reducible apply Vl.mk (α:=List SV)); · with_reducible exact hap)|((with_reducible apply Vl.mk (α:=List SV)); · (with_reducible refine QgN ?_);exact rfl)|(refine QcG q0 ?_)|(refine zpu q1 ?_)|refine zst ?_|refine zbx ?_ ?_|refine zgx ?_ ?_|refine eqR ?_));(all_goals (try (conv=>whnf)))
  all_goals exact Qdi
theorem Qo0 (M:Mc) (hM:M.ok) (p:Int) (v:Nat) (hv:v<4294967296) (ck lg:Nat) (LG:List SV) (hLG:Qau LG=true):Fn Tryz.prog 135 [.s (.ptr 0 0),.s (.int .i64 p),.s (.int .u32 v)] [⟨true,1,M.C 1++ [.int .u32 ck,.sl 2 0 lg,.nilsl]⟩,⟨true,1,wsv M.m⟩,⟨false,4,LG⟩]
  (· =⟨.a (.s (oS 3 (Qbj M p v).2)),[(0,some ⟨true,1,(Qbj M p v).1.C 1++ [.int .u32 ck,.sl 2 0 lg,.nilsl]⟩),(1,some ⟨true,1,wsv (Qbj M p v).1.m⟩)],oR (Qbj M p v).2⟩):=by
 have q3:=Qk1 v
 have q4:=Qe1 M.d hM.dk M.m _ rfl hM.ml hM.mr p v hv M.ct
 have q5:=Qfd M.n hM.nk M.m _ rfl hM.ml hM.mr p v hv M.ct
 have q6:=Qis M.bt M.bg hM.dv.2.2.1 M.m _ rfl hM.ml p v hv
 have h4:=QdC M.d M.m M.m.length p v M.ct
 have h5:=QdF M.n M.m M.m.length p v M.ct
 have hgl:=Qd4 M.m M.bg M.m.length p v
 have hsx:=Qaa M.m
 have hsg:=Qaa (Qhk M.m M.bg M.m.length p v)
 obtain ⟨D,hD⟩:∃ D,Qbj M p v=D:=⟨_,rfl⟩
 rw [hD]
 unfold Qbj at hD
 generalize QbQ M.d M.m M.m.length p v M.ct=Z4 at *
 generalize QbU M.n M.m M.m.length p v M.ct=Z5 at *
 generalize Qlx M.bg M.m.length p v=gb at *
 generalize Qhk M.m M.bg M.m.length p v=gm at *
 obtain ⟨⟨e0,e1,e2,e3,e4,e5,e6,e7⟩,o4⟩:=Z4
 obtain ⟨⟨f0,f1,f2,f3,f4,f5⟩,o5⟩:=Z5
 obtain ⟨hx,hc,hxr,hcr,hpr,hmr,_,hdk,hnk,hdv⟩:=hM
 obtain ⟨_,_,_,m,_,_,_,_,d,n,bt,bg,ct,_,_⟩:=M
 dsimp only at *
 obtain ⟨_,_,_,_,_,_,_,_,_,_,_,_,_,_,_,_,rfl⟩:=Qaq hx
 obtain ⟨_,_,_,_,_,_,_,_,rfl⟩:=QaJ hc
 obtain ⟨_,_,_,_,_,_,_,_⟩:=d
 obtain ⟨_,_,_,_,_,_⟩:=n
 dsimp only [Mc.C,Mc.D,Dk.C,Nk.C,Dk.ok,Nk.ok] at *
 generalize hnn:m.length=nn at *
 generalize hX:wsv m=XX at *
 generalize hG:wsv gm=GG at *
 clear hxr hcr hdk hnk hmr hdv hpr
 by_cases h1:p=0
 ·rw [if_pos h1] at hD
  subst h1 hD
  clear q3 q4 q5 q6 h4 h5
  dsimp only [oS,oR]
  rw [hnn,hX]
  refine fnW Tryz.func135 ?_
  (repeat' ((conv=>whnf);first|(intro hb;first|exact zk3 hb|(try (replace hb:=zn0 hb)))|((with_reducible apply Ge.mk (α:=List Int)); · exact rfl)|refine zst ?_|refine zbx ?_ ?_|refine zgx ?_ ?_|refine eqR ?_));(all_goals (try (conv=>whnf)))
  all_goals first|(exfalso;simp only [decide_eq_true_eq,decide_eq_false_iff_not,beq_iff_eq,beq_eq_false_iff_ne,ne_eq] at hb;omega)|(exfalso;omega)|(exfalso;simp at hb;done)|(exact QeE)|(exfalso;simp only [decide_eq_true_eq,decide_eq_false_iff_not,beq_iff_eq,beq_eq_false_iff_ne,ne_eq] at *;omega)
 rw [if_neg h1] at hD
 by_cases h2:p≤2
 ·rw [if_pos h2] at hD
  subst hD
  clear q3 q4 q5 q6 h4 h5
  dsimp only [oS,oR]
  rw [hnn,hX]
  refine fnW Tryz.func135 ?_
  (repeat' ((conv=>whnf);first|(intro hb;first|exact zk3 hb|(try (replace hb:=zn0 hb)))|refine zst ?_|refine zbx ?_ ?_|refine zgx ?_ ?_|refine eqR ?_));(all_goals (try (conv=>whnf)))
  all_goals first|(exfalso;simp only [decide_eq_true_eq,decide_eq_false_iff_not,beq_iff_eq,beq_eq_false_iff_ne,ne_eq] at hb;omega)|(exfalso;omega)|(exfalso;simp at hb;done)|(exact QaV)|(exfalso;simp only [decide_eq_true_eq,decide_eq_false_iff_not,beq_iff_eq,beq_eq_false_iff_ne,ne_eq] at *;omega)
 rw [if_neg h2] at hD
 by_cases h3:p=3
 ·rw [if_pos h3] at hD
  subst h3 hD
  clear q4 q5 q6 h4 h5
  dsimp only [oS,oR]
  rw [hnn,hX]
  unfold Qw0 at q3
  by_cases hv0:(v:Int)=0
  ·rw [if_pos hv0] at q3
   rw [decide_eq_false (not_not_intro hv0)]
   obtain rfl:v=0:=by omega
   refine fnW Tryz.func135 ?_
   (repeat' ((conv=>whnf);first|(intro hb;first|exact zk3 hb|(try (replace hb:=zn0 hb)))|(refine zpu q3 ?_)|refine zst ?_|refine zbx ?_ ?_|refine zgx ?_ ?_|refine eqR ?_));(all_goals (try (conv=>whnf)))
   all_goals first|(exfalso;simp only [decide_eq_true_eq,decide_eq_false_iff_not,beq_iff_eq,beq_eq_false_iff_ne,ne_eq] at hb;omega)|(exfalso;omega)|(exfalso;simp at hb;done)|(exact QaV)|(exfalso;simp only [decide_eq_true_eq,decide_eq_false_iff_not,beq_iff_eq,beq_eq_false_iff_ne,ne_eq] at *;omega)
  ·rw [if_neg hv0] at q3
   rw [decide_eq_true hv0]
   refine fnW Tryz.func135 ?_
   (repeat' ((conv=>whnf);first|(intro hb;first|exact zk3 hb|(try (replace hb:=zn0 hb)))|(refine zpu q3 ?_)|refine zst ?_|refine zbx ?_ ?_|refine zgx ?_ ?_|refine eqR ?_));(all_goals (try (conv=>whnf)))
   all_goals first|(exfalso;simp only [decide_eq_true_eq,decide_eq_false_iff_not,beq_iff_eq,beq_eq_false_iff_ne,ne_eq] at hb;omega)|(exfalso;omega)|(exfalso;simp at hb;done)|(exact QaV)|(exfalso;simp only [decide_eq_true_eq,decide_eq_false_iff_not,beq_iff_eq,beq_eq_false_iff_ne,ne_eq] at *;omega)
 rw [if_neg h3] at hD
 by_cases h6:p≤6
 ·rw [if_pos h6] at hD
  subst hD
  clear q3 q5 q6 h5
  dsimp only [Mc.C,Mc.D,Dk.C,Nk.C] at *
  rw [hnn,hX]
  cases o4 with
  | none =>
   dsimp only [oS,oR] at *
   refine fnW Tryz.func135 ?_
   (repeat' ((conv=>whnf);first|(intro hb;first|exact zk3 hb|(try (replace hb:=zn0 hb)))|(refine Qay q4 ?_)|refine zst ?_|refine zbx ?_ ?_|refine zgx ?_ ?_|refine eqR ?_));(all_goals (try (conv=>whnf)))
   all_goals first|(exfalso;simp only [decide_eq_true_eq,decide_eq_false_iff_not,beq_iff_eq,beq_eq_false_iff_ne,ne_eq] at hb;omega)|(exfalso;omega)|(exfalso;simp at hb;done)|(exact QaV)|(exfalso;simp only [decide_eq_true_eq,decide_eq_false_iff_not,beq_iff_eq,beq_eq_false_iff_ne,ne_eq] at *;omega)
  | some l =>
   obtain ⟨hl4,hls,hlk⟩:=h4 l rfl
   dsimp only [oS,oR] at *
   refine fnW Tryz.func135 ?_
   (repeat' ((conv=>whnf);first|(intro hb;first|exact zk3 hb|(try (replace hb:=zn0 hb)))|(refine Qay q4 ?_)|refine zst ?_|refine zbx ?_ ?_|refine zgx ?_ ?_|refine eqR ?_));(all_goals (try (conv=>whnf)))
   all_goals first|(exfalso;simp only [decide_eq_true_eq,decide_eq_false_iff_not,beq_iff_eq,beq_eq_false_iff_ne,ne_eq] at hb;omega)|(exfalso;omega)|(exfalso;simp at hb;done)|(exact QeE)|(exfalso;simp only [decide_eq_true_eq,decide_eq_false_iff_not,beq_iff_eq,beq_eq_false_iff_ne,ne_eq] at *;omega)
 rw [if_neg h6] at hD
 by_cases h9:p≤9
 ·rw [if_pos h9] at hD
  subst hD
  clear q3 q4 q6 h4
  dsimp only [Mc.C,Mc.D,Dk.C,Nk.C] at *
  rw [hnn,hX]
  cases o5 with
  | none =>
   dsimp only [oS,oR] at *
   refine fnW Tryz.func135 ?_
   (repeat' ((conv=>whnf);first|(intro hb;first|exact zk3 hb|(try (replace hb:=zn0 hb)))|(refine Qay q5 ?_)|refine zst ?_|refine zbx ?_ ?_|refine zgx ?_ ?_|refine eqR ?_));(all_goals (try (conv=>whnf)))
   all_goals first|(exfalso;simp only [decide_eq_true_eq,decide_eq_false_iff_not,beq_iff_eq,beq_eq_false_iff_ne,ne_eq] at hb;omega)|(exfalso;omega)|(exfalso;simp at hb;done)|(exact QaV)|(exfalso;simp only [decide_eq_true_eq,decide_eq_false_iff_not,beq_iff_eq,beq_eq_false_iff_ne,ne_eq] at *;omega)
  | some l =>
   obtain ⟨hl4,hls,hlk⟩:=h5 l rfl
   dsimp only [oS,oR] at *
   refine fnW Tryz.func135 ?_
   (repeat' ((conv=>whnf);first|(intro hb;first|exact zk3 hb|(try (replace hb:=zn0 hb)))|(refine Qay q5 ?_)|refine zst ?_|refine zbx ?_ ?_|refine zgx ?_ ?_|refine eqR ?_));(all_goals (try (conv=>whnf)))
   all_goals first|(exfalso;simp only [decide_eq_true_eq,decide_eq_false_iff_not,beq_iff_eq,beq_eq_false_iff_ne,ne_eq] at hb;omega)|(exfalso;omega)|(exfalso;simp at hb;done)|(exact QeE)|(exfalso;simp only [decide_eq_true_eq,decide_eq_false_iff_not,beq_iff_eq,beq_eq_false_iff_ne,ne_eq] at *;omega)
 rw [if_neg h9] at hD
 subst hD
 clear q3 q4 q5 h4 h5
 dsimp only [Mc.C,Mc.D,Dk.C,Nk.C] at *
 rw [hG,hgl]
 dsimp only [oS,oR]
 refine fnW Tryz.func135 ?_
 (repeat' ((conv=>whnf);first|(intro hb;first|exact zk3 hb|(try (replace hb:=zn0 hb)))|(refine QbY q6 ?_)|refine zst ?_|refine zbx ?_ ?_|refine zgx ?_ ?_|refine eqR ?_));(all_goals (try (conv=>whnf)))
 all_goals first|(exfalso;simp only [decide_eq_true_eq,decide_eq_false_iff_not,beq_iff_eq,beq_eq_false_iff_ne,ne_eq] at hb;omega)|(exfalso;omega)|(exfalso;simp at hb;done)|(exact QaV)|(exfalso;simp only [decide_eq_true_eq,decide_eq_false_iff_not,beq_iff_eq,beq_eq_false_iff_ne,ne_eq] at *;omega)
theorem QqN (M:Mc) (hM:M.ok) (p:Int) (w:Nat) (ck lg:Nat) (LG:List SV) (hLG:Qau LG=true):Fn Tryz.prog 134 [.s (.ptr 0 0),.s (.int .i64 p),.s (.int .u32 w)] [⟨true,1,M.C 1++ [.int .u32 ck,.sl 2 0 lg,.nilsl]⟩,⟨true,1,wsv M.m⟩,⟨false,4,LG⟩]
  (· =⟨.a (.s (.int .u32 (inV M p w:Nat))),[(0,some ⟨true,1,(inM M p).C 1++ [.int .u32 ck,.sl 2 0 lg,.nilsl]⟩)],[]⟩):=by
 have q1:=Qhb M.ks hM.dv.2.2.2.2 p
 have q2:=Qg6 M.ta M.td M.tf
 have q3:=Qg0 M.d p
 have q4:=QgB M.n p
 have q5:=QgJ M.bt M.bg hM.dv.2.2.1 p
 have hsx:=Qaa M.m
 obtain ⟨B,hB⟩:∃ B,inV M p w=B:=⟨_,rfl⟩
 obtain ⟨M2,hM2⟩:∃ B,inM M p=B:=⟨_,rfl⟩
 rw [hB,hM2]
 unfold inV at hB
 unfold inM at hM2
 generalize Qp6 M.ks p=v1 at *
 generalize QqC M.ks p=k2 at *
 generalize Qmk M.tf=v2 at *
 generalize Qig M.d p=v3 at *
 generalize Qhx M.n p=v4 at *
 generalize QhO M.bt M.bg p=v5 at *
 obtain ⟨hx,hc,hxr,hcr,hpr,hmr,_,hdk,hnk,hdv⟩:=hM
 obtain ⟨_,_,_,m,ks,ta,td,tf,d,n,bt,bg,_,_,_⟩:=M
 dsimp only at *
 obtain ⟨_,_,_,_,_,_,_,_,_,_,_,_,_,_,_,_,rfl⟩:=Qaq hx
 obtain ⟨_,_,_,_,_,_,_,_,rfl⟩:=QaJ hc
 obtain ⟨_,_,_,_,_,_,_,_⟩:=d
 obtain ⟨_,_,_,_,_,_⟩:=n
 dsimp only [Mc.C,Mc.D,Dk.C,Nk.C,Dk.ok,Nk.ok] at *
 generalize hnn:m.length=nn at *
 generalize wsv m=XX at *
 clear hxr hcr hdk hnk hmr hdv hpr
 by_cases h1:p≤1
 ·rw [if_pos h1] at hB hM2
  subst hB hM2
  dsimp only
  rw [hnn]
  refine fnW Tryz.func134 ?_
  (repeat' ((conv=>whnf);first|(intro hb;first|exact zk3 hb|(try (replace hb:=zn0 hb)))|(refine zpu q1 ?_)|refine zst ?_|refine zbx ?_ ?_|refine zgx ?_ ?_|refine eqR ?_));(all_goals (try (conv=>whnf)))
  all_goals first|(exfalso;omega)|(exfalso;simp at hb;done)|(exact QaV)|(exfalso;simp only [decide_eq_true_eq,decide_eq_false_iff_not,beq_iff_eq,beq_eq_false_iff_ne,ne_eq] at *;omega)
 rw [if_neg h1] at hB hM2
 subst hM2
 by_cases h2:p=2
 ·rw [if_pos h2] at hB
  subst hB h2
  dsimp only
  rw [hnn]
  refine fnW Tryz.func134 ?_
  (repeat' ((conv=>whnf);first|(intro hb;first|exact zk3 hb|(try (replace hb:=zn0 hb)))|refine zst ?_|refine zbx ?_ ?_|refine zgx ?_ ?_|refine eqR ?_));(all_goals (try (conv=>whnf)))
  all_goals first|(exfalso;omega)|(exfalso;simp at hb;done)|(exact QaV)|(exfalso;simp only [decide_eq_true_eq,decide_eq_false_iff_not,beq_iff_eq,beq_eq_false_iff_ne,ne_eq] at *;omega)
 rw [if_neg h2] at hB
 by_cases h3:p=3
 ·rw [if_pos h3] at hB
  subst hB h3
  dsimp only
  rw [hnn]
  refine fnW Tryz.func134 ?_
  (repeat' ((conv=>whnf);first|(intro hb;first|exact zk3 hb|(try (replace hb:=zn0 hb)))|(refine zpu q2 ?_)|refine zst ?_|refine zbx ?_ ?_|refine zgx ?_ ?_|refine eqR ?_));(all_goals (try (conv=>whnf)))
  all_goals first|(exfalso;omega)|(exfalso;simp at hb;done)|(exact QaV)|(exfalso;simp only [decide_eq_true_eq,decide_eq_false_iff_not,beq_iff_eq,beq_eq_false_iff_ne,ne_eq] at *;omega)
 rw [if_neg h3] at hB
 by_cases h4:p≤6
 ·rw [if_pos h4] at hB
  subst hB
  dsimp only
  rw [hnn]
  refine fnW Tryz.func134 ?_
  (repeat' ((conv=>whnf);first|(intro hb;first|exact zk3 hb|(try (replace hb:=zn0 hb)))|(refine zpu q3 ?_)|refine zst ?_|refine zbx ?_ ?_|refine zgx ?_ ?_|refine eqR ?_));(all_goals (try (conv=>whnf)))
  all_goals first|(exfalso;omega)|(exfalso;simp at hb;done)|(exact QaV)|(exfalso;simp only [decide_eq_true_eq,decide_eq_false_iff_not,beq_iff_eq,beq_eq_false_iff_ne,ne_eq] at *;omega)
 rw [if_neg h4] at hB
 by_cases h5:p≤9
 ·rw [if_pos h5] at hB
  subst hB
  dsimp only
  rw [hnn]
  refine fnW Tryz.func134 ?_
  (repeat' ((conv=>whnf);first|(intro hb;first|exact zk3 hb|(try (replace hb:=zn0 hb)))|(refine zpu q4 ?_)|refine zst ?_|refine zbx ?_ ?_|refine zgx ?_ ?_|refine eqR ?_));(all_goals (try (conv=>whnf)))
  all_goals first|(exfalso;omega)|(exfalso;simp at hb;done)|(exact QaV)|(exfalso;simp only [decide_eq_true_eq,decide_eq_false_iff_not,beq_iff_eq,beq_eq_false_iff_ne,ne_eq] at *;omega)
 rw [if_neg h5] at hB
 subst hB
 dsimp only
 rw [hnn]
 refine fnW Tryz.func134 ?_
 (repeat' ((conv=>whnf);first|(intro hb;first|exact zk3 hb|(try (replace hb:=zn0 hb)))|(refine zpu q5 ?_)|refine zst ?_|refine zbx ?_ ?_|refine zgx ?_ ?_|refine eqR ?_));(all_goals (try (conv=>whnf)))
 all_goals first|(exfalso;omega)|(exfalso;simp at hb;done)|(exact QaV)|(exfalso;simp only [decide_eq_true_eq,decide_eq_false_iff_not,beq_iff_eq,beq_eq_false_iff_ne,ne_eq] at *;omega)
theorem Qo5 (M:Mc) (p:Int) (v:Nat):Qbj M p v=({ M with m:=(Qbj M p v).1.m,ta:=(Qbj M p v).1.ta,td:=(Qbj M p v).1.td,tf:=(Qbj M p v).1.tf,d:=(Qbj M p v).1.d,n:=(Qbj M p v).1.n,bg:=(Qbj M p v).1.bg },(Qbj M p v).2):=by
 unfold Qbj
 repeat' split
 all_goals rfl
theorem QqR (M:Mc) (p:Int):inM M p= { M with ks:=(inM M p).ks }:=by
 unfold inM
 split<;>rfl
theorem Qnq (M:Mc) (hM:M.ok) (w:Nat) (hw:w<4294967296) (ck lg:Nat) (LG:List SV) (hLG:Qau LG=true):Fn Tryz.prog 113 [.s (.ptr 0 0),.s (.int .u32 w)] [⟨true,1,M.C 1++ [.int .u32 ck,.sl 2 0 lg,.nilsl]⟩,⟨true,1,wsv M.m⟩,⟨false,4,LG⟩]
  (· =⟨.a (.s (oS 3 (Qb8 M w).2)),[(0,some ⟨true,1,(Qb8 M w).1.C 1++ [.int .u32 ck,.sl 2 0 lg,.nilsl]⟩),(1,some ⟨true,1,wsv (Qb8 M w).1.m⟩)],oR (Qb8 M w).2⟩):=by
 have q0:=QeR M hM
 have q1:=QkU M.x (QfA M) (Qgx M) M.m _ hM.x (QcS M hM) (Qfm M hM) (QfG M hM) rfl hM.mr (by have:=hM.ml;omega) hM.xr _ rfl
 have hS:=Qd7 M hM
 have hQ:=QcU M hM
 obtain ⟨K,P,R,V,he,hR,hV⟩:=hQ.ef
 have i1:=QqN (QaG M) hS P w ck lg LG hLG
 have i2:=Qo0 (QaG M) hS P V hV ck lg LG hLG
 have i3:=Qc9 (QaG M).x (QaG M).pc (QaG M).c R (inV (QaG M) P w) hS.x hS.c hR
 have hX2:=Qap (QaG M).x R (inV (QaG M) P w)
 have hO:=QfL (QaG M) P V
 have hOl:=QfC (QaG M) P V
 have hOe:=Qo5 (QaG M) P V
 have hIe:=QqR (QaG M) P
 have hct1:IntKind.u64.wrap ((M.ct:Int)+1)=(((M.ct+1)%18446744073709551616:Nat):Int):=by rw [QjF];omega
 obtain ⟨D,hD⟩:∃ D,Qb8 M w=D:=⟨_,rfl⟩
 rw [hD]
 unfold Qb8 at hD
 rw [he] at hD
 change (if K=1 then (Qdh { inM (QaG M) P with x:=QaE (QaG M).x R (inV (QaG M) P w) },none) else if K=2 then (Qdh (Qbj (QaG M) P V).1,(Qbj (QaG M) P V).2) else if K=3 then (Qdh { QaG M with wt:=true },none) else if K=4 then (Qdh { QaG M with ht:=true },none) else (Qdh (QaG M),none))=D at hD
 change Fn _ _ _ _ (· =⟨.tup [.agg (Qao (Qbb M).x (Qbb M).pc (Qbb M).c),.agg (Qbb M).e],[(0,some ⟨true,1,wsv (Qbb M).m⟩)],[]⟩) at q1
 rw [he] at q1
 have h1:=hQ.xl
 have h2:=hQ.cl
 have h3:=hQ.ml
 have h4:=QcS M hM
 have hsx:=Qaa M.m
 have hsm:=Qaa (Qbb M).m
 have hm2:(QaG M).m.length=M.m.length:=hQ.ml
 rw [hOe] at hOl hD i2
 rw [hIe] at i1 hD
 generalize (inM (QaG M) P).ks=k2 at *
 generalize hsX:QaE (QaG M).x R (inV (QaG M) P w)=X2 at *
 generalize (Qbj (QaG M) P V).2=O2 at *
 generalize (Qbj (QaG M) P V).1.m=m2 at *
 generalize (Qbj (QaG M) P V).1.ta=ta2 at *
 generalize (Qbj (QaG M) P V).1.td=td2 at *
 generalize (Qbj (QaG M) P V).1.tf=tf2 at *
 generalize (Qbj (QaG M) P V).1.d=d2 at *
 generalize (Qbj (QaG M) P V).1.n=n2 at *
 generalize (Qbj (QaG M) P V).1.bg=bg2 at *
 have hs2:=Qaa m2
 clear hOe hIe hS
 unfold QaG at *
 generalize inV _ P w=v1 at i1 i3 hsX
 generalize Qbb M=Q at *
 obtain ⟨qx,qpc,qc,qm,qe⟩:=Q
 dsimp only at *
 subst he
 clear hQ
 have hX3:X2.length=16:=by rw [hX2];exact h1
 generalize QfA M=ip at *
 generalize Qgx M=ic at *
 clear hsX hX2
 obtain ⟨_,_,_,_,_,_,_,_,_,_,_,_,_,_,_,_,rfl⟩:=Qaq h1
 obtain ⟨_,_,_,_,_,_,_,_,rfl⟩:=QaJ h2
 obtain ⟨_,_,_,_,_,_,_,_,_,_,_,_,_,_,_,_,rfl⟩:=Qaq hX3
 obtain ⟨_,_,_,_,_,_,_,_,rfl⟩:=QaJ h4
 obtain ⟨_,_,_,_,_,_,_,_⟩:=d2
 obtain ⟨_,_,_,_,_,_⟩:=n2
 obtain ⟨hx,hc,hxr,hcr,hpr,hmr,_,hdk,hnk,hdv⟩:=hM
 obtain ⟨x,pc,c,m,ks,ta,td,tf,d,n,_,bg,ct,wt,ht⟩:=M
 dsimp only at *
 obtain ⟨_,_,_,_,_,_,_,_,_,_,_,_,_,_,_,_,rfl⟩:=Qaq hx
 obtain ⟨_,_,_,_,_,_,_,_,rfl⟩:=QaJ hc
 obtain ⟨_,_,d2,_,_,_,_,_⟩:=d
 obtain ⟨_,_,n2,_,_,_⟩:=n
 dsimp only [Mc.C,Mc.D,Dk.C,Nk.C,Dk.ok,Nk.ok] at *
 unfold efS at *
 generalize hnn:m.length=nn at *
 generalize hXX:wsv m=XX at *
 generalize hQQ:wsv qm=QQ at *
 generalize h22:wsv m2=M2 at *
 generalize hct2:(ct+1)%18446744073709551616=ct2 at *
 clear hxr hcr hdk hnk hmr hdv hpr
 by_cases k1:K=1
 ·rw [if_pos k1] at hD
  subst k1 hD
  clear i2 hO hOl
  dsimp only [oS,oR,Qdh,Mc.C,Mc.D,Dk.C,Nk.C] at *
  simp only [Qaf,List.cons_append,List.nil_append] at *
  rw [hct2]
  try rw [h3] at *
  try rw [hQQ]
  refine fnW Tryz.func113 ?_
  (repeat' ((conv=>whnf);first|(intro hb;first|exact zk3 hb|(try (replace hb:=zn0 hb)))|(refine Qay q0 ?_)|(refine QbY q1 ?_)|((with_reducible apply Vl.mk (α:=List SV)); · (with_reducible refine QdD ?_);exact rfl)|(with_reducible refine zv hct1 ?_)|(refine Qbx i1 ?_)|(refine zpu i3 ?_)|refine zst ?_|refine zbx ?_ ?_|refine zgx ?_ ?_|refine eqR ?_));(all_goals (try (conv=>whnf)))
  all_goals first|(exfalso;simp only [decide_eq_true_eq,decide_eq_false_iff_not,beq_iff_eq,beq_eq_false_iff_ne,ne_eq] at hb;omega)|(exfalso;omega)|(exfalso;simp at hb;done)|(exact QaV)
 rw [if_neg k1] at hD
 by_cases k2':K=2
 ·rw [if_pos k2'] at hD
  subst k2' hD
  clear i1 i3
  cases O2 with
  | none =>
   dsimp only [oS,oR,Qdh,Mc.C,Mc.D,Dk.C,Nk.C] at *
   simp only [Qaf,List.cons_append,List.nil_append] at *
   rw [hct2]
   rw [hOl.trans h3] at i2 ⊢
   rw [h3] at i2
   try rw [h22]
   refine fnW Tryz.func113 ?_
   (repeat' ((conv=>whnf);first|(intro hb;first|exact zk3 hb|(try (replace hb:=zn0 hb)))|(refine Qay q0 ?_)|(refine QbY q1 ?_)|((with_reducible apply Vl.mk (α:=List SV)); · (with_reducible refine QdD ?_);exact rfl)|(with_reducible refine zv hct1 ?_)|(refine Qbx i2 ?_)|refine zst ?_|refine zbx ?_ ?_|refine zgx ?_ ?_|refine eqR ?_));(all_goals (try (conv=>whnf)))
   all_goals first|(exfalso;simp only [decide_eq_true_eq,decide_eq_false_iff_not,beq_iff_eq,beq_eq_false_iff_ne,ne_eq] at hb;omega)|(exfalso;omega)|(exfalso;simp at hb;done)|(exact QaV)
  | some l =>
   obtain ⟨hl4,hls,hlk⟩:=hO l rfl
   dsimp only [oS,oR,Qdh,Mc.C,Mc.D,Dk.C,Nk.C] at *
   simp only [Qaf,List.cons_append,List.nil_append] at *
   rw [hct2]
   rw [hOl.trans h3] at i2 ⊢
   rw [h3] at i2
   try rw [h22]
   refine fnW Tryz.func113 ?_
   (repeat' ((conv=>whnf);first|(intro hb;first|exact zk3 hb|(try (replace hb:=zn0 hb)))|(refine Qay q0 ?_)|(refine QbY q1 ?_)|((with_reducible apply Vl.mk (α:=List SV)); · (with_reducible refine QdD ?_);exact rfl)|(with_reducible refine zv hct1 ?_)|(refine Qbx i2 ?_)|refine zst ?_|refine zbx ?_ ?_|refine zgx ?_ ?_|refine eqR ?_));(all_goals (try (conv=>whnf)))
   all_goals first|(exfalso;simp only [decide_eq_true_eq,decide_eq_false_iff_not,beq_iff_eq,beq_eq_false_iff_ne,ne_eq] at hb;omega)|(exfalso;omega)|(exfalso;simp at hb;done)|(exact QeE)
 rw [if_neg k2'] at hD
 by_cases k3:K=3
 ·rw [if_pos k3] at hD
  subst k3 hD
  clear i1 i2 i3 hO hOl
  dsimp only [oS,oR,Qdh,Mc.C,Mc.D,Dk.C,Nk.C] at *
  simp only [Qaf,List.cons_append,List.nil_append] at *
  rw [hct2]
  try rw [h3] at *
  try rw [hQQ]
  refine fnW Tryz.func113 ?_
  (repeat' ((conv=>whnf);first|(intro hb;first|exact zk3 hb|(try (replace hb:=zn0 hb)))|(refine Qay q0 ?_)|(refine QbY q1 ?_)|((with_reducible apply Vl.mk (α:=List SV)); · (with_reducible refine QdD ?_);exact rfl)|(with_reducible refine zv hct1 ?_)|refine zst ?_|refine zbx ?_ ?_|refine zgx ?_ ?_|refine eqR ?_));(all_goals (try (conv=>whnf)))
  all_goals first|(exfalso;simp only [decide_eq_true_eq,decide_eq_false_iff_not,beq_iff_eq,beq_eq_false_iff_ne,ne_eq] at hb;omega)|(exfalso;omega)|(exfalso;simp at hb;done)|(exact QaV)
 rw [if_neg k3] at hD
 by_cases k4:K=4
 ·rw [if_pos k4] at hD
  subst k4 hD
  clear i1 i2 i3 hO hOl
  dsimp only [oS,oR,Qdh,Mc.C,Mc.D,Dk.C,Nk.C] at *
  simp only [Qaf,List.cons_append,List.nil_append] at *
  rw [hct2]
  try rw [h3] at *
  try rw [hQQ]
  refine fnW Tryz.func113 ?_
  (repeat' ((conv=>whnf);first|(intro hb;first|exact zk3 hb|(try (replace hb:=zn0 hb)))|(refine Qay q0 ?_)|(refine QbY q1 ?_)|((with_reducible apply Vl.mk (α:=List SV)); · (with_reducible refine QdD ?_);exact rfl)|(with_reducible refine zv hct1 ?_)|refine zst ?_|refine zbx ?_ ?_|refine zgx ?_ ?_|refine eqR ?_));(all_goals (try (conv=>whnf)))
  all_goals first|(exfalso;simp only [decide_eq_true_eq,decide_eq_false_iff_not,beq_iff_eq,beq_eq_false_iff_ne,ne_eq] at hb;omega)|(exfalso;omega)|(exfalso;simp at hb;done)|(exact QaV)
 rw [if_neg k4] at hD
 subst hD
 clear i1 i2 i3 hO hOl
 dsimp only [oS,oR,Qdh,Mc.C,Mc.D,Dk.C,Nk.C] at *
 simp only [Qaf,List.cons_append,List.nil_append] at *
 rw [hct2]
 try rw [h3] at *
 try rw [hQQ]
 refine fnW Tryz.func113 ?_
 (repeat' ((conv=>whnf);first|(intro hb;first|exact zk3 hb|(try (replace hb:=zn0 hb)))|(refine Qay q0 ?_)|(refine QbY q1 ?_)|((with_reducible apply Vl.mk (α:=List SV)); · (with_reducible refine QdD ?_);exact rfl)|(with_reducible refine zv hct1 ?_)|refine zst ?_|refine zbx ?_ ?_|refine zgx ?_ ?_|refine eqR ?_));(all_goals (try (conv=>whnf)))
 all_goals first|(exfalso;simp only [decide_eq_true_eq,decide_eq_false_iff_not,beq_iff_eq,beq_eq_false_iff_ne,ne_eq] at hb;omega)|(exfalso;omega)|(exfalso;simp at hb;done)|(exact QaV)
end Go.Proofs.YtjgikeckbeeehaaGreat
