import Derived.Test.YtjgikeckbeeehaaGreatP28
set_option linter.unusedSimpArgs false
set_option linter.unusedVariables false
set_option maxHeartbeats 100000000
set_option maxRecDepth 100000
namespace Go.Proofs.YtjgikeckbeeehaaGreat
open Go Go.RowKit
def QdN (n:Int):Nat→List Int
 | 0=> []
 | j+1=>QdN n j++ [mix n ((j / 9:Nat):Int)%256]
theorem QcX (n:Int):∀ j,(QdN n j).length=j
 | 0=>rfl
 | j+1=>by unfold QdN;rw [List.length_append,QcX n j];rfl
def QwX (n:Int) (K j:Nat) (R:List SV):St :=
 ⟨[(0,.a (.s (.int .i64 n))),(1,.a (.s (.int .i64 K))),(5,.a (.s (.sl 0 0 j))),(6,.a (.s (.int .i64 j)))],[(0,some ⟨true,1,R⟩)],[0]⟩
theorem Qfq (n:Int) (K:Nat) (hK:K≤1000000):Fn Tryz.prog 41 [.s (.int .i64 n),.s (.int .i64 K)] [] (· =⟨.a (.s (.str (strOfNums (QdN n K)))),[],[]⟩):=by
 refine fnW Tryz.func41 ?_
 (repeat' ((conv=>whnf);first|(intro hb;first|exact zk0 hb|(try (replace hb:=zn0 hb)))|refine zst ?_|refine zbx ?_ ?_|refine zgx ?_ ?_));(all_goals (try (conv=>whnf)))
 refine Lp.inv (fun mm σ=>∃ j:Nat,mm+j=K∧σ=QwX n K j (isv .u8 (QdN n j))) ?_ ?_
 ·refine ⟨K,QwX n K 0 [],?_,0,by omega,rfl⟩
  apply Qhw (m:= [(0,none)])
  ·repeat' (first|exact Qc4|apply Qci)
   all_goals first|exact Qcu (Qcx (Qcd rfl))|exact Qcu (Qcx (Qcw rfl))|exact Qcu (Qcx (Qes rfl))
  ·show HlS _ _ [] _
   refine QbG (QcF rfl rfl) ?_
   exact Qcy
  ·rfl
 rintro mm σ ⟨j,hmj,rfl⟩
 unfold QwX
 have hRs:=QaH .u8 (QdN n (j+1))
 have hR0:=QaH .u8 (QdN n j)
 have hlen:(isv .u8 (QdN n j)).length=j:=by unfold isv;rw [List.length_map,QcX]
 by_cases hj:j<K
 ·have hmx:=Qi5 n ((j / 9:Nat):Int)
  have happ:isv .u8 (QdN n j)++ [.int .u8 (mix n ((j / 9:Nat):Int)%256)]=isv .u8 (QdN n (j+1)):=by unfold isv;rw [QdN,List.map_append];rfl
  have q1:(j:Int).tdiv 9=((j / 9:Nat):Int):=by rw [QcN (by omega)];omega
  have q1':IntKind.i64.wrap ((j:Int).tdiv 9)=((j / 9:Nat):Int):=by rw [q1,QbI (by omega) (by omega)]
  have q2:IntKind.i64.wrap ((j:Int)+1)=((j+1:Nat):Int):=by rw [QbI (by omega) (by omega)];omega
  have q4:IntKind.u8.wrap (mix n ((j / 9:Nat):Int))=mix n ((j / 9:Nat):Int)%256:=QAH _
  generalize ((j / 9:Nat):Int)=j9 at *
  generalize mix n j9=y at *
  generalize isv .u8 (QdN n j)=R0 at *
  generalize hR1:isv .u8 (QdN n (j+1))=R1 at *
  generalize y%256=z at *
  (repeat' ((conv=>whnf);first|(intro hb;first|exact zk3 hb|(try (replace hb:=zn0 hb)))|(with_reducible first|refine zv q1 ?_|refine zv q1' ?_|refine zv q2 ?_|refine zv q4 ?_)|(apply Sd.mk; · refine ⟨rfl,rfl,?_,?_,?_⟩;(focus (show R0.length=j*1;omega));(focus (show (j+1)*1≤_;omega));(focus omega))|((with_reducible apply Vl.mk (α:=List SV)); · with_reducible exact happ)|(refine zpu hmx ?_)|refine zst ?_|refine zbx ?_ ?_|refine zgx ?_ ?_|refine eqR ?_));(all_goals (try (conv=>whnf)))
  all_goals first
   | (
     refine ⟨mm-1,QwX n K (j+1) R1,by omega,?_,j+1,by omega,by rw [hR1];rfl⟩
     (exact zwL [(0,some _)]))
  
 ·obtain rfl:j=K:=by omega
  have ht:=QcR (QdN n j)
  have sg:(isv .u8 (QdN n j)).length=j∧∀ (i:Nat) s,(isv .u8 (QdN n j))[i]?=some s→(isv .u8 (QdN n j))[0+i]?=some s:=⟨hlen,fun i s hs=>by rw [Nat.zero_add];exact hs⟩
  generalize isv .u8 (QdN n j)=R0 at *
  generalize QdN n j=L at *
  (repeat' ((conv=>whnf);first|(intro hb;first|exact zk3 hb|(try (replace hb:=zn0 hb)))|(apply Sg.mk; · exact sg)|((with_reducible apply Ge.mk (α:=List Int)); · exact ht)|refine zst ?_|refine zbx ?_ ?_|refine zgx ?_ ?_|refine eqR ?_));(all_goals (try (conv=>whnf)))
  all_goals first|(exfalso;omega)|(exfalso;simp at hb;omega)|(exact zf_)
def evV (n:Int):Ev :=
 if mix n 2%7=0 then ⟨2,0,⟨#[]⟩⟩
 else if mix n 2%7=1∨mix n 2%7=2 then ⟨3,w32 (bits .and .i64 (mix n 2 / 256) 255),⟨#[]⟩⟩
 else if mix n 2%7=3 then ⟨4,1,⟨#[]⟩⟩
 else if mix n 2%7=4 then ⟨4,1,strOfNums (QdN (mix n 2) 128)⟩
 else if mix n 2%7=5 then ⟨5,0,strOfNums (QdN (mix n 2) (1+(mix n 2 / 256%40).toNat))⟩
 else if mix n 2 / 256%4=0 then ⟨4,0,⟨#[]⟩⟩
 else ⟨6,w32 (mix n 2 / 256%3),⟨#[]⟩⟩
theorem Qqk (n:Int):(evV n).ok:=by
 have h0:(⟨#[]⟩:ByteArray).size≤1000000:=Nat.zero_le _
 unfold evV
 split
 ·exact ⟨by show (0:Nat)<_;omega,h0⟩
 split
 ·exact ⟨by show w32 _<_;exact Qax _,h0⟩
 split
 ·exact ⟨by show (1:Nat)<_;omega,h0⟩
 split
 ·exact ⟨by show (1:Nat)<_;omega,by show (strOfNums _).size≤_;rw [strOfNums_size,QcX];omega⟩
 split
 ·exact ⟨by show (0:Nat)<_;omega,by show (strOfNums _).size≤_;rw [strOfNums_size,QcX];omega⟩
 split
 ·exact ⟨by show (0:Nat)<_;omega,h0⟩
 ·exact ⟨by have h:=Qax (mix n 2 / 256%3);exact h,h0⟩
theorem Qnm (n:Int):Fn Tryz.prog 102 [.s (.int .i64 n)] [] (· =⟨.a (.agg (evV n).C),[],[]⟩):=by
 have q0:=Qi5 n 2
 have hr:=Qdj n 2
 have q1:=Qfq (mix n 2) 128 (by omega)
 have q2:=Qfq (mix n 2) (1+(mix n 2 / 256%40).toNat) (by omega)
 have k40:IntKind.i64.wrap (1+mix n 2 / 256%40)=((1+(mix n 2 / 256%40).toNat:Nat):Int):=by rw [QbI (by omega) (by omega)];omega
 have m7:Int.tmod (mix n 2) 7=mix n 2%7:=Int.tmod_eq_emod_of_nonneg hr.1
 have m40:Int.tmod (mix n 2 / 256) 40=mix n 2 / 256%40:=Int.tmod_eq_emod_of_nonneg (by omega)
 have m4:Int.tmod (mix n 2 / 256) 4=mix n 2 / 256%4:=Int.tmod_eq_emod_of_nonneg (by omega)
 have m3:Int.tmod (mix n 2 / 256) 3=mix n 2 / 256%3:=Int.tmod_eq_emod_of_nonneg (by omega)
 have w1:=Qav (bits .and .i64 (mix n 2 / 256) 255)
 have w2:=Qav (mix n 2 / 256%3)
 have h7:0≤mix n 2%7∧mix n 2%7<7:=by omega
 obtain ⟨E,hE⟩:∃ E,evV n=E:=⟨_,rfl⟩
 rw [hE]
 unfold evV at hE
 generalize strOfNums (QdN (mix n 2) 128)=S1 at *
 generalize strOfNums (QdN (mix n 2) (1+(mix n 2 / 256%40).toNat))=S2 at *
 generalize 1+(mix n 2 / 256%40).toNat=kk at *
 generalize w32 (bits .and .i64 (mix n 2 / 256) 255)=N1 at *
 generalize w32 (mix n 2 / 256%3)=N2 at *
 generalize mix n 2%7=r7 at *
 generalize mix n 2 / 256%4=r4 at *
 generalize mix n 2 / 256%3=r3 at *
 generalize mix n 2 / 256%40=r40 at *
 by_cases h1:r7=0
 ·rw [if_pos h1] at hE
  subst hE
  dsimp only [Ev.C]
  refine fnW Tryz.func102 ?_
  (repeat' ((conv=>whnf);first|(intro hb;first|exact zk3 hb|(try (replace hb:=zn0 hb)))|(with_reducible first|refine zv m7 ?_|refine zv (sh8 _) ?_|refine zv m40 ?_|refine zv m4 ?_|refine zv m3 ?_|refine zv w1 ?_|refine zv w2 ?_|refine zv k40 ?_)|(refine zpu q0 ?_)|refine zst ?_|refine zbx ?_ ?_|refine zgx ?_ ?_|refine eqR ?_));(all_goals (try (conv=>whnf)))
  all_goals exact zF_
 rw [if_neg h1] at hE
 by_cases h2:r7=1∨r7=2
 ·rw [if_pos h2] at hE
  subst hE
  dsimp only [Ev.C]
  rcases h2 with h2|h2
  ·skip
   refine fnW Tryz.func102 ?_
   (repeat' ((conv=>whnf);first|(intro hb;first|exact zk3 hb|(try (replace hb:=zn0 hb)))|(with_reducible first|refine zv m7 ?_|refine zv (sh8 _) ?_|refine zv m40 ?_|refine zv m4 ?_|refine zv m3 ?_|refine zv w1 ?_|refine zv w2 ?_|refine zv k40 ?_)|(refine zpu q0 ?_)|refine zst ?_|refine zbx ?_ ?_|refine zgx ?_ ?_|refine eqR ?_));(all_goals (try (conv=>whnf)))
   all_goals exact zF_
  ·skip
   refine fnW Tryz.func102 ?_
   (repeat' ((conv=>whnf);first|(intro hb;first|exact zk3 hb|(try (replace hb:=zn0 hb)))|(with_reducible first|refine zv m7 ?_|refine zv (sh8 _) ?_|refine zv m40 ?_|refine zv m4 ?_|refine zv m3 ?_|refine zv w1 ?_|refine zv w2 ?_|refine zv k40 ?_)|(refine zpu q0 ?_)|refine zst ?_|refine zbx ?_ ?_|refine zgx ?_ ?_|refine eqR ?_));(all_goals (try (conv=>whnf)))
   all_goals exact zF_
 rw [if_neg h2] at hE
 by_cases h3:r7=3
 ·rw [if_pos h3] at hE
  subst hE
  dsimp only [Ev.C]
  refine fnW Tryz.func102 ?_
  (repeat' ((conv=>whnf);first|(intro hb;first|exact zk3 hb|(try (replace hb:=zn0 hb)))|(with_reducible first|refine zv m7 ?_|refine zv (sh8 _) ?_|refine zv m40 ?_|refine zv m4 ?_|refine zv m3 ?_|refine zv w1 ?_|refine zv w2 ?_|refine zv k40 ?_)|(refine zpu q0 ?_)|refine zst ?_|refine zbx ?_ ?_|refine zgx ?_ ?_|refine eqR ?_));(all_goals (try (conv=>whnf)))
  all_goals exact zF_
 rw [if_neg h3] at hE
 by_cases h4:r7=4
 ·rw [if_pos h4] at hE
  subst hE
  dsimp only [Ev.C]
  refine fnW Tryz.func102 ?_
  (repeat' ((conv=>whnf);first|(intro hb;first|exact zk3 hb|(try (replace hb:=zn0 hb)))|(with_reducible first|refine zv m7 ?_|refine zv (sh8 _) ?_|refine zv m40 ?_|refine zv m4 ?_|refine zv m3 ?_|refine zv w1 ?_|refine zv w2 ?_|refine zv k40 ?_)|(refine zpu q0 ?_)|(refine zpu q1 ?_)|refine zst ?_|refine zbx ?_ ?_|refine zgx ?_ ?_|refine eqR ?_));(all_goals (try (conv=>whnf)))
  all_goals exact zF_
 rw [if_neg h4] at hE
 by_cases h5:r7=5
 ·rw [if_pos h5] at hE
  subst hE
  dsimp only [Ev.C]
  refine fnW Tryz.func102 ?_
  (repeat' ((conv=>whnf);first|(intro hb;first|exact zk3 hb|(try (replace hb:=zn0 hb)))|(with_reducible first|refine zv m7 ?_|refine zv (sh8 _) ?_|refine zv m40 ?_|refine zv m4 ?_|refine zv m3 ?_|refine zv w1 ?_|refine zv w2 ?_|refine zv k40 ?_)|(refine zpu q0 ?_)|(refine zpu q2 ?_)|refine zst ?_|refine zbx ?_ ?_|refine zgx ?_ ?_|refine eqR ?_));(all_goals (try (conv=>whnf)))
  all_goals exact zF_
 rw [if_neg h5] at hE
 by_cases h6:r4=0
 ·rw [if_pos h6] at hE
  subst hE
  dsimp only [Ev.C]
  refine fnW Tryz.func102 ?_
  (repeat' ((conv=>whnf);first|(intro hb;first|exact zk3 hb|(try (replace hb:=zn0 hb)))|(with_reducible first|refine zv m7 ?_|refine zv (sh8 _) ?_|refine zv m40 ?_|refine zv m4 ?_|refine zv m3 ?_|refine zv w1 ?_|refine zv w2 ?_|refine zv k40 ?_)|(refine zpu q0 ?_)|refine zst ?_|refine zbx ?_ ?_|refine zgx ?_ ?_|refine eqR ?_));(all_goals (try (conv=>whnf)))
  all_goals exact zF_
 rw [if_neg h6] at hE
 subst hE
 dsimp only [Ev.C]
 refine fnW Tryz.func102 ?_
 (repeat' ((conv=>whnf);first|(intro hb;first|exact zk3 hb|(try (replace hb:=zn0 hb)))|(with_reducible first|refine zv m7 ?_|refine zv (sh8 _) ?_|refine zv m40 ?_|refine zv m4 ?_|refine zv m3 ?_|refine zv w1 ?_|refine zv w2 ?_|refine zv k40 ?_)|(refine zpu q0 ?_)|refine zst ?_|refine zbx ?_ ?_|refine zgx ?_ ?_|refine eqR ?_));(all_goals (try (conv=>whnf)))
 all_goals exact zF_
theorem QbV {r:Rk} {B C:Nat} (h:r.ok B) (hb:B≤C):r.ok C:=by
 obtain ⟨hM,hck,hll,hls,hlk,_,hql,hqe⟩:=h
 exact ⟨hM,hck,hll,hls,hlk,by omega,hql,hqe⟩
theorem QhU:∀ (l:List Ev) (r:Rk) (B:Nat),r.ok B→(∀ e∈l,e.ok)→(Qhn r l).ok (B+l.length)
 | [],r,B,h,_=>h
 | e::l,r,B,h,he=>QbV (QhU l (r.off e) (B+1) (Qen r e B h (he e (List.mem_cons_self ..))) fun x hx=>he x (List.mem_cons_of_mem _ hx)) (by rw [List.length_cons];omega)
theorem Qku:∀ (k:Nat) (r:Rk) (os:List (List SV)) (B:Nat),r.ok B→QbC os→(Qj6 k r os).1.ok (B+2*k+1)∧QbC (Qj6 k r os).2∧(Qj6 k r os).2.length≤os.length+k
 | 0,r,os,B,h,ho=>⟨QbV h (by omega),ho,Nat.le_refl _⟩
 | k+1,r,os,B,h,ho=>by
  have hd:=Qks r B h
  unfold Qj6
  split
  ·exact ⟨QbV hd (by omega),ho,by dsimp only;omega⟩
  ·obtain ⟨a,b,c⟩:=Qku k r.due.go (os++(Qb8 r.due.M r.due.ck).2.toList) (B+1+1) (QsB _ _ hd) (Qbn ho (Qfn _ _))
   refine ⟨QbV a (by omega),b,?_⟩
   have:(Qb8 r.due.M r.due.ck).2.toList.length≤1:=by cases (Qb8 r.due.M r.due.ck).2<;>simp
   rw [List.length_append] at c
   omega
theorem QsD (r:Rk) (s:Int) (cl:Nat) (hcl:cl<4294967296) (B:Nat) (h:r.ok B):(Qda r s cl).1.ok (B+8017)∧QbC (Qda r s cl).2∧(Qda r s cl).2.length≤4000:=by
 unfold Qda
 split
 ·have hl:=Qg8 s
  have h1:(Rk.mk r.M (max r.ck cl) r.lg r.LG r.es).ok B:=by
   obtain ⟨hM,hck,hll,hls,hlk,hlb,hql,hqe⟩:=h
   exact ⟨hM,by show max _ _<_;omega,hll,hls,hlk,hlb,hql,hqe⟩
  have h2:=QhU r.es _ B h1 h.qe
  have h3:(Rk.mk (Qhn ⟨r.M,max r.ck cl,r.lg,r.LG,r.es⟩ r.es).M (Qhn ⟨r.M,max r.ck cl,r.lg,r.LG,r.es⟩ r.es).ck (Qhn ⟨r.M,max r.ck cl,r.lg,r.LG,r.es⟩ r.es).lg (Qhn ⟨r.M,max r.ck cl,r.lg,r.LG,r.es⟩ r.es).LG []).ok (B+16):=by
   obtain ⟨hM,hck,hll,hls,hlk,hlb,hql,hqe⟩:=h2
   exact ⟨hM,hck,hll,hls,hlk,by have:=h.ql;dsimp only at *;omega,Nat.zero_le _,fun e h=>by cases h⟩
  obtain ⟨a,b,c⟩:=Qku (QjK s).toNat _ [] (B+16) h3 (fun l h=>by cases h)
  exact ⟨QbV a (by omega),b,Nat.le_trans c (by rw [List.length_nil];omega)⟩
 ·exact ⟨QbV h (by omega),(fun l h=>by cases h),Nat.zero_le _⟩
theorem Qmi (r:Rk) (hr:r.ok 900000000) (s:Int) (cl:Nat) (hcl:cl<4294967296):Fn Tryz.prog 103 [.agg (r.C 0),.s (.int .i64 s),.s (.int .u32 cl)] [⟨false,1,wsv r.M.m⟩,⟨false,4,r.LG⟩,⟨false,3,evs r.es⟩]
  (· =⟨.tup [.agg ((Qda r s cl).1.C 3),.s (.sl 6 0 (Qda r s cl).2.length)],[],[⟨true,1,wsv (Qda r s cl).1.M.m⟩,⟨true,4,(Qda r s cl).1.LG⟩,⟨true,3,evs (Qda r s cl).1.es⟩,⟨true,4,OLs (Qda r s cl).2⟩]⟩):=by
 cases h:QiZ r.M
 ·exact Qpy r hr s cl hcl h
 ·exact Qld r hr s cl hcl h
def QdM (r:Rk) (n:Int):Rk × List (List SV) :=
 if mix n 3%3=0 then ((r.arr (evV n)).1,[]) else Qda r (mix n 3 / 16%12) (w32 (bits .and .i64 (mix n 3 / 4096) 255))
theorem Qsz (r:Rk) (e:Ev) (he:e.ok) (B C:Nat) (hC:C=B+8017) (L:Nat) (h:r.ok B):((r.arr e).1,([]:List (List SV))).1.ok C∧QbC ((r.arr e).1,([]:List (List SV))).2∧((r.arr e).1,([]:List (List SV))).2.length≤L :=
 ⟨QbV (QuJ r e B h he) (by omega),(fun l h=>by cases h),Nat.zero_le L⟩
theorem QfM (r:Rk) (n:Int) (B:Nat) (h:r.ok B):(QdM r n).1.ok (B+8017)∧QbC (QdM r n).2∧(QdM r n).2.length≤4000:=by
 have h1:=Qsz r (evV n) (Qqk n) B _ rfl 4000 h
 have h2:=QsD r (mix n 3 / 16%12) (w32 (bits .and .i64 (mix n 3 / 4096) 255)) (Qax _) B h
 unfold QdM
 generalize Qda r (mix n 3 / 16%12) (w32 (bits .and .i64 (mix n 3 / 4096) 255))=Y at *
 generalize ((r.arr (evV n)).1,([]:List (List SV)))=W at *
 generalize mix n 3%3=v at *
 by_cases hv:v=0
 ·rw [if_pos hv];exact h1
 ·rw [if_neg hv];exact h2
theorem Qrd (r:Rk) (hr:r.ok 900000000) (n:Int):Fn Tryz.prog 80 [.agg (r.C 0),.s (.int .i64 n)] [⟨false,1,wsv r.M.m⟩,⟨false,4,r.LG⟩,⟨false,3,evs r.es⟩]
  (· =⟨.tup [.agg ((QdM r n).1.C 3),.s (.sl 6 0 (QdM r n).2.length)],[],[⟨true,1,wsv (QdM r n).1.M.m⟩,⟨true,4,(QdM r n).1.LG⟩,⟨true,3,evs (QdM r n).1.es⟩,⟨true,4,OLs (QdM r n).2⟩]⟩):=by
 have q0:=Qi5 n 3
 have hm:=Qdj n 3
 have q1:=Qnm n
 have q2:=QsO r (QbV hr (by omega)) (evV n) (Qqk n)
 have q3:=QaK (mix n 3 / 16) 12 (by omega) (by omega)
 have q4:=Qmi r hr (mix n 3 / 16%12) (w32 (bits .and .i64 (mix n 3 / 4096) 255)) (Qax _)
 have m3:Int.tmod (mix n 3) 3=mix n 3%3:=Int.tmod_eq_emod_of_nonneg hm.1
 have w1:=Qav (bits .and .i64 (mix n 3 / 4096) 255)
 have d16:mix n 3 / 2^min (Int.toNat 4) IntKind.i64.bits=mix n 3 / 16:=rfl
 have d4096:mix n 3 / 2^min (Int.toNat 12) IntKind.i64.bits=mix n 3 / 4096:=rfl
 have hok:=QfM r n 900000000 hr
 obtain ⟨X,hX⟩:∃ X,QdM r n=X:=⟨_,rfl⟩
 rw [hX] at hok ⊢
 obtain ⟨⟨hM2,_,_,hl2,_,_,_,_⟩,ho2,_⟩:=hok
 obtain ⟨hO1,hO2,hO3⟩:=QdO ho2
 unfold QdM at hX
 have hs1:=Qaa r.M.m
 have hl1:=hr.ls
 have hq1:=QaY r.es
 have hx:=hr.M.x
 have hc:=hr.M.c
 have hs2:=Qaa X.1.M.m
 have hq2:=QaY X.1.es
 have hx2:=hM2.x
 have hc2:=hM2.c
 generalize mix n 3%3=v3 at *
 generalize mix n 3 / 16%12=v12 at *
 generalize w32 (bits .and .i64 (mix n 3 / 4096) 255)=vw at *
 generalize evV n=e at *
 by_cases h3:v3=0
 ·rw [if_pos h3] at hX
  clear q3 q4
  generalize r.arr e=Y at *
  obtain ⟨Y1,Y2⟩:=Y
  subst hX
  dsimp only at *
  show Fn _ _ _ _ (· =⟨.tup [_,.s (.sl 6 0 0)],[],[_,_,_,⟨true,4,[]⟩]⟩)
  obtain ⟨M,ck,lg,LG,es⟩:=r
  obtain ⟨M2,ck2,lg2,LG2,es2⟩:=Y1
  dsimp only [Rk.C,Rk.T,Ev.C] at *
  clear hr hM2
  generalize evs es=QU at *
  generalize es.length=qu at *
  generalize evs es2=QU2 at *
  generalize es2.length=qu2 at *
  generalize hXe:wsv M.m=Xe at *
  generalize hXf:wsv M2.m=Xf at *
  obtain ⟨xe,pce,ce,me,kse,tae,tde,tfe,de,ne,bte,bge,cte,wte,hte⟩:=M
  dsimp only at *
  obtain ⟨xe_0,xe_1,xe_2,xe_3,xe_4,xe_5,xe_6,xe_7,xe_8,xe_9,xe_10,xe_11,xe_12,xe_13,xe_14,xe_15,rfl⟩:=Qaq hx
  obtain ⟨ce_0,ce_1,ce_2,ce_3,ce_4,ce_5,ce_6,ce_7,rfl⟩:=QaJ hc
  obtain ⟨de_0,de_1,de_2,de_3,de_4,de_5,de_6,de_7⟩:=de
  obtain ⟨ne_0,ne_1,ne_2,ne_3,ne_4,ne_5⟩:=ne
  obtain ⟨xf,pcf,cf,mf,ksf,taf,tdf,tff,df,nf,btf,bgf,ctf,wtf,htf⟩:=M2
  dsimp only at *
  obtain ⟨xf_0,xf_1,xf_2,xf_3,xf_4,xf_5,xf_6,xf_7,xf_8,xf_9,xf_10,xf_11,xf_12,xf_13,xf_14,xf_15,rfl⟩:=Qaq hx2
  obtain ⟨cf_0,cf_1,cf_2,cf_3,cf_4,cf_5,cf_6,cf_7,rfl⟩:=QaJ hc2
  obtain ⟨df_0,df_1,df_2,df_3,df_4,df_5,df_6,df_7⟩:=df
  obtain ⟨nf_0,nf_1,nf_2,nf_3,nf_4,nf_5⟩:=nf
  simp only [Qaf,List.cons_append,List.nil_append,Mc.C,Mc.D,Dk.C,Nk.C] at *
  generalize me.length=nn1 at *
  generalize mf.length=nn2 at *
  refine fnW Tryz.func80 ?_
  (repeat' ((conv=>whnf);first|(intro hb;first|exact zk3 hb|(try (replace hb:=zn0 hb)))|(with_reducible first|refine zv m3 ?_|refine zv d16 ?_|refine zv d4096 ?_|refine zv w1 ?_)|(refine zpu q0 ?_)|(refine zpu q1 ?_)|(refine QcG q2 ?_)|refine zst ?_|refine zbx ?_ ?_|refine zgx ?_ ?_|refine eqR ?_));(all_goals (try (conv=>whnf)))
  all_goals exact Qe8
 ·rw [if_neg h3] at hX
  clear q1 q2
  rw [hX] at q4
  clear hX
  obtain ⟨Y1,os⟩:=X
  dsimp only at *
  generalize OLs os=OL at *
  generalize os.length=ol at *
  obtain ⟨M,ck,lg,LG,es⟩:=r
  obtain ⟨M2,ck2,lg2,LG2,es2⟩:=Y1
  dsimp only [Rk.C,Rk.T,Ev.C] at *
  clear hr hM2
  generalize evs es=QU at *
  generalize es.length=qu at *
  generalize evs es2=QU2 at *
  generalize es2.length=qu2 at *
  generalize hXe:wsv M.m=Xe at *
  generalize hXf:wsv M2.m=Xf at *
  obtain ⟨xe,pce,ce,me,kse,tae,tde,tfe,de,ne,bte,bge,cte,wte,hte⟩:=M
  dsimp only at *
  obtain ⟨xe_0,xe_1,xe_2,xe_3,xe_4,xe_5,xe_6,xe_7,xe_8,xe_9,xe_10,xe_11,xe_12,xe_13,xe_14,xe_15,rfl⟩:=Qaq hx
  obtain ⟨ce_0,ce_1,ce_2,ce_3,ce_4,ce_5,ce_6,ce_7,rfl⟩:=QaJ hc
  obtain ⟨de_0,de_1,de_2,de_3,de_4,de_5,de_6,de_7⟩:=de
  obtain ⟨ne_0,ne_1,ne_2,ne_3,ne_4,ne_5⟩:=ne
  obtain ⟨xf,pcf,cf,mf,ksf,taf,tdf,tff,df,nf,btf,bgf,ctf,wtf,htf⟩:=M2
  dsimp only at *
  obtain ⟨xf_0,xf_1,xf_2,xf_3,xf_4,xf_5,xf_6,xf_7,xf_8,xf_9,xf_10,xf_11,xf_12,xf_13,xf_14,xf_15,rfl⟩:=Qaq hx2
  obtain ⟨cf_0,cf_1,cf_2,cf_3,cf_4,cf_5,cf_6,cf_7,rfl⟩:=QaJ hc2
  obtain ⟨df_0,df_1,df_2,df_3,df_4,df_5,df_6,df_7⟩:=df
  obtain ⟨nf_0,nf_1,nf_2,nf_3,nf_4,nf_5⟩:=nf
  simp only [Qaf,List.cons_append,List.nil_append,Mc.C,Mc.D,Dk.C,Nk.C] at *
  generalize me.length=nn1 at *
  generalize mf.length=nn2 at *
  refine fnW Tryz.func80 ?_
  (repeat' ((conv=>whnf);first|(intro hb;first|exact zk3 hb|(try (replace hb:=zn0 hb)))|(with_reducible first|refine zv m3 ?_|refine zv d16 ?_|refine zv d4096 ?_|refine zv w1 ?_)|(refine zpu q0 ?_)|(refine zpu q3 ?_)|(refine QcG q4 ?_)|refine zst ?_|refine zbx ?_ ?_|refine zgx ?_ ?_|refine eqR ?_));(all_goals (try (conv=>whnf)))
  all_goals exact Qjq
def plS:Rk→List (List SV)→List Int→Rk × List (List SV)
 | r,os,[]=>(r,os)
 | r,os,a::l=>plS (QdM r a).1 (os++(QdM r a).2) l
theorem QeC {os os':List (List SV)} (h:QbC os) (h':QbC os'):QbC (os++os'):=by
 intro l hl
 rcases List.mem_append.1 hl with h1|h1
 ·exact h l h1
 ·exact h' l h1
theorem QpA (os os':List (List SV)):OLs (os++os')=OLs os++OLs os':=by unfold OLs;simp
theorem Qqm:∀ (l:List Int) (r:Rk) (os:List (List SV)) (B:Nat),r.ok B→QbC os→(plS r os l).1.ok (B+8017*l.length)∧QbC (plS r os l).2
 | [],r,os,B,h,ho=>⟨QbV h (by omega),ho⟩
 | a::l,r,os,B,h,ho=>by
  obtain ⟨a1,a2,a3⟩:=QfM r a B h
  obtain ⟨b1,b2⟩:=Qqm l (QdM r a).1 (os++(QdM r a).2) _ a1 (QeC ho a2)
  exact ⟨QbV b1 (by rw [List.length_cons];omega),b2⟩
def Qnc (n j ol:Nat) (A0 A1 RC Z X LG QU OL:List SV):St :=
 ⟨[(1,.a (.s (.sl 1 0 n))),(4,.a (.s (.ptr 3 0))),(6,.a (.s (.ptr 2 0))),(7,.a (.s (.sl 7 0 ol))),(8,.a (.s (.int .i64 j)))],
  [(0,some ⟨false,1,A0⟩),(1,some ⟨false,1,A1⟩),(2,some ⟨true,1,RC⟩),(3,some ⟨true,1,Z⟩),(4,some ⟨true,1,X⟩),(5,some ⟨true,4,LG⟩),(6,some ⟨true,3,QU⟩),(7,some ⟨true,4,OL⟩)],[0]⟩
theorem QrW (M:Mc) (hM:M.ok) (ls:List Int) (n:Nat) (hn:ls.length=n) (hn2:n≤30):Fn Tryz.prog 42 [.agg (M.C 0),.s (.sl 1 0 n)] [⟨false,1,wsv M.m⟩,⟨false,1,isv .i64 ls⟩]
  (· =⟨.tup [.agg ((plS ⟨M,0,0,[],[]⟩ [] ls).1.C 2),.s (.sl 5 0 (plS ⟨M,0,0,[],[]⟩ [] ls).2.length)],[],[⟨true,1,wsv (plS ⟨M,0,0,[],[]⟩ [] ls).1.M.m⟩,⟨true,4,(plS ⟨M,0,0,[],[]⟩ [] ls).1.LG⟩,⟨true,3,evs (plS ⟨M,0,0,[],[]⟩ [] ls).1.es⟩,⟨true,4,OLs (plS ⟨M,0,0,[],[]⟩ [] ls).2⟩]⟩):=by
 have q0:=QrH M hM
 obtain ⟨D,hD⟩:∃ D,plS ⟨M,0,0,[],[]⟩ [] ls=D:=⟨_,rfl⟩
 rw [hD]
 have hr0:=QhB M hM
 obtain ⟨rS,hrS⟩:∃ r:Rk,r=⟨M,0,0,[],[]⟩:=⟨_,rfl⟩
 rw [← hrS] at hD hr0
 have hs0:=Qaa M.m
 have hsA:=QaH .i64 ls
 have hxl:=hM.x
 have hcl:=hM.c
 obtain ⟨A0,hA0⟩:∃ A,A=wsv M.m:=⟨_,rfl⟩
 have hget:∀ j,j<n→(isv .i64 ls)[j]?=some (.int .i64 (ls.getD j 0)):=fun j h=>QhP .i64 ls j (by omega)
 generalize isv .i64 ls=A1 at *
 dsimp only [Rk.C,Rk.T,List.length_nil] at *
 rw [← hA0] at q0 hs0 ⊢
 obtain ⟨nn,hnn⟩:∃ n,M.m.length=n:=⟨_,rfl⟩
 obtain ⟨_,_,_,_,_,_,_,_,da,na,_,_,_,_,_⟩:=M
 dsimp only at *
 obtain ⟨_,_,_,_,_,_,_,_,_,_,_,_,_,_,_,_,rfl⟩:=Qaq hxl
 obtain ⟨_,_,_,_,_,_,_,_,rfl⟩:=QaJ hcl
 obtain ⟨_,_,_,_,_,_,_,_⟩:=da
 obtain ⟨_,_,_,_,_,_⟩:=na
 clear hM
 have hnn':=hnn
 simp only [Qaf,List.cons_append,List.nil_append,Mc.C,Mc.D,Dk.C,Nk.C] at *
 simp only [hnn] at q0 ⊢
 obtain ⟨Z,hZ⟩:∃ Z,Z92=Z:=⟨_,rfl⟩
 have hZl:Z.length=52:=by rw [← hZ];rfl
 have hZs:Qau Z=true:=by rw [← hZ];rfl
 refine fnW Tryz.func42 ?_
 (repeat' ((conv=>whnf);first|(intro hb;first|exact zk3 hb|(try (replace hb:=zn0 hb)))|(refine Qay q0 ?_)|refine zst ?_|refine zbx ?_ ?_|refine zgx ?_ ?_|refine eqR ?_));(all_goals (try (conv=>whnf)))
 all_goals try (exfalso;simp at hb;done)
 refine Lp.inv (fun mm σ=>∃ (j:Nat) (r:Rk) (os:List (List SV)),mm+j=n∧plS r os (ls.drop j)=D∧r.ok (8017*j)∧QbC os∧os.length≤4000*j∧σ=Qnc n j os.length A0 A1 (r.C 4) Z (wsv r.M.m) r.LG (evs r.es) (OLs os)) ?_ ?_
 ·refine ⟨n,Qnc n 0 0 A0 A1 (rS.C 4) Z (wsv rS.M.m) rS.LG (evs rS.es) [],?_,0,rS,[],by omega,hD,hr0,(fun l h=>by cases h),Nat.le_refl 0,rfl⟩
  rw [hrS]
  dsimp only [Rk.C,Rk.T]
  rw [← hA0,← hZ]
  rw [show evs []= [] from rfl]
  unfold Qnc Z92
  simp only [Qaf,List.cons_append,List.nil_append,Mc.C,Mc.D,Dk.C,Nk.C,hnn']
  (exact zwL [(0,some 0),(1,some 1),(2,some 131200),(3,some 65600),(4,some 131136),(5,some 131137),(6,some 131138),(7,none)])
 clear hD hrS hr0 q0
 rintro mm σ ⟨j,r,os,hmj,hpl,hrk,hos,hol,rfl⟩
 obtain ⟨hO1,hO2,hO3⟩:=QdO hos
 by_cases hj:j<n
 ·have hjl:j<ls.length:=by omega
  have hgj:=hget j hj
  rw [List.drop_eq_getElem_cons hjl] at hpl
  have hga:ls.getD j 0=ls[j]:=by rw [List.getD_eq_getElem?_getD,List.getElem?_eq_getElem hjl];rfl
  rw [← hga] at hpl
  generalize ls.getD j 0=a at *
  change plS (QdM r a).1 (os++(QdM r a).2) (ls.drop (j+1))=D at hpl
  have qs:=Qrd r (QbV hrk (by omega)) a
  obtain ⟨k1,k2,k3⟩:=QfM r a _ hrk
  obtain ⟨hP1,hP2,hP3⟩:=QdO k2
  have hos2:=QeC hos k2
  have hOa:=QpA os (QdM r a).2
  have hol2:(os++(QdM r a).2).length=os.length+(QdM r a).2.length:=by rw [List.length_append]
  have q2:IntKind.i64.wrap ((j:Int)+1)=((j+1:Nat):Int):=by rw [QbI (by omega) (by omega)];omega
  have hx1:(0:Int)≤(j:Int)∧(j:Int)<(n:Int):=by omega
  have hs1:=Qaa r.M.m
  have hl1:=hrk.ls
  have hq1:=QaY r.es
  have hx:=hrk.M.x
  have hc:=hrk.M.c
  have hs2:=Qaa (QdM r a).1.M.m
  have hl2:=k1.ls
  have hq2:=QaY (QdM r a).1.es
  have hx2:=k1.M.x
  have hc2:=k1.M.c
  have hk8:8017*j+8017=8017*(j+1):=by omega
  rw [hk8] at k1
  generalize QdM r a=Y at *
  obtain ⟨Y1,os2⟩:=Y
  dsimp only at *
  obtain ⟨r',hr'⟩:∃ r',r'=Y1:=⟨_,rfl⟩
  rw [← hr'] at hpl k1
  have hfin:∀ RC X LG QU,RC=Y1.C 4→X=wsv Y1.M.m→LG=Y1.LG→QU=evs Y1.es→Qnc n (j+1) (os++os2).length A0 A1 RC Z X LG QU (OLs (os++os2))=Qnc n (j+1) (os++os2).length A0 A1 (r'.C 4) Z (wsv r'.M.m) r'.LG (evs r'.es) (OLs (os++os2)):=fun RC X LG QU h1 h2 h3 h4=>by rw [h1,h2,h3,h4,hr']
  rw [hol2,hOa] at hfin
  have hon:(os++os2).length≤4000*(j+1):=by rw [hol2];omega
  clear hr' hrk hget k2 hos
  obtain ⟨OL2,hOp⟩:∃ L,OLs os++OLs os2=L:=⟨_,rfl⟩
  have hO2b:Qau OL2=true:=by rw [← hOp];exact QaI hO2 hP2
  rw [hOp] at hfin hOa
  replace hO1:(OLs os).length=os.length*ty215.size:=hO1
  replace hP1:(OLs os2).length=os2.length*ty215.size:=hP1
  generalize hOLo:OLs os=OL at *
  generalize hoLo:os.length=ol at *
  generalize OLs os2=OP at *
  generalize os2.length=op at *
  obtain ⟨M,ck1,lg,LG,es1⟩:=r
  obtain ⟨M2,ck2,lg2,LG2,es2⟩:=Y1
  dsimp only [Rk.C,Rk.T] at *
  generalize evs es1=QU at *
  generalize es1.length=qu at *
  generalize evs es2=QU2 at *
  generalize es2.length=qu2 at *
  generalize hXe:wsv M.m=Xe at *
  generalize hXf:wsv M2.m=Xf at *
  obtain ⟨xe,pce,ce,me,kse,tae,tde,tfe,de,ne,bte,bge,cte,wte,hte⟩:=M
  dsimp only at *
  obtain ⟨xe_0,xe_1,xe_2,xe_3,xe_4,xe_5,xe_6,xe_7,xe_8,xe_9,xe_10,xe_11,xe_12,xe_13,xe_14,xe_15,rfl⟩:=Qaq hx
  obtain ⟨ce_0,ce_1,ce_2,ce_3,ce_4,ce_5,ce_6,ce_7,rfl⟩:=QaJ hc
  obtain ⟨de_0,de_1,de_2,de_3,de_4,de_5,de_6,de_7⟩:=de
  obtain ⟨ne_0,ne_1,ne_2,ne_3,ne_4,ne_5⟩:=ne
  obtain ⟨_,_,_,mf,_,_,_,_,df,nf,_,_,_,_,_⟩:=M2
  dsimp only at *
  obtain ⟨_,_,_,_,_,_,_,_,_,_,_,_,_,_,_,_,rfl⟩:=Qaq hx2
  obtain ⟨_,_,_,_,_,_,_,_,rfl⟩:=QaJ hc2
  obtain ⟨_,_,_,_,_,_,_,_⟩:=df
  obtain ⟨_,_,_,_,_,_⟩:=nf
  have hfin2:=hfin _ Xf LG2 QU2 rfl rfl rfl rfl
  clear hfin
  unfold Qnc
  simp only [Qaf,List.cons_append,List.nil_append,Mc.C,Mc.D,Dk.C,Nk.C] at *
  generalize me.length=nn1 at *
  generalize mf.length=nn2 at *
  (repeat' ((conv=>whnf);first|(intro hb;first|exact zk3 hb|(try (replace hb:=zn0 hb)))|(with_reducible refine zv q2 ?_)|(apply Sd.mk; · first|with_reducible exact hx1|exact ⟨rfl,rfl,hO1,bnd (by omega) (by decide),by omega⟩)|((with_reducible apply Ge.mk (α:=SV)); · exact hgj)|(apply Sk.mk; · exact Qbs OP hP1 hP3)|((with_reducible apply Vl.mk (α:=List SV)); · with_reducible exact hOp)|(refine QcG qs ?_)|refine zst ?_|refine zbx ?_ ?_|refine zgx ?_ ?_|refine eqR ?_));(all_goals (try (conv=>whnf)))
  all_goals first|(exfalso;omega)|(exfalso;simp at hb;done)|(refine ⟨mm-1,Qnc n (j+1) (ol+op) A0 A1 _ Z Xf LG2 QU2 OL2,by omega,?_,j+1,r',os++os2,by omega,hpl,k1,hos2,hon,by rw [hol2,hOa];exact hfin2⟩;unfold Qnc;(exact zwL [(0,some 0),(1,some 1),(2,some 2),(3,some 3),(4,some 131392),(5,some 131393),(6,some 131394),(7,some 262272)]))
 ·obtain rfl:j=n:=by omega
  rw [List.drop_eq_nil_of_le (by omega)] at hpl
  change (r,os)=D at hpl
  subst hpl
  have hx:=hrk.M.x
  have hc:=hrk.M.c
  have hs1:=Qaa r.M.m
  have hl1:=hrk.ls
  have hq1:=QaY r.es
  obtain ⟨M,ck1,lg,LG,es1⟩:=r
  dsimp only [Rk.C,Rk.T] at *
  generalize hXe:wsv M.m=Xe at *
  clear hrk hget
  generalize OLs os=OL at *
  generalize os.length=ol at *
  generalize evs es1=QU at *
  generalize es1.length=qu at *
  obtain ⟨xe,pce,ce,me,kse,tae,tde,tfe,de,ne,bte,bge,cte,wte,hte⟩:=M
  dsimp only at *
  obtain ⟨xe_0,xe_1,xe_2,xe_3,xe_4,xe_5,xe_6,xe_7,xe_8,xe_9,xe_10,xe_11,xe_12,xe_13,xe_14,xe_15,rfl⟩:=Qaq hx
  obtain ⟨ce_0,ce_1,ce_2,ce_3,ce_4,ce_5,ce_6,ce_7,rfl⟩:=QaJ hc
  obtain ⟨de_0,de_1,de_2,de_3,de_4,de_5,de_6,de_7⟩:=de
  obtain ⟨ne_0,ne_1,ne_2,ne_3,ne_4,ne_5⟩:=ne
  unfold Qnc
  simp only [Qaf,List.cons_append,List.nil_append,Mc.C,Mc.D,Dk.C,Nk.C] at *
  generalize me.length=nn1 at *
  (repeat' ((conv=>whnf);first|(intro hb;first|exact zk3 hb|(try (replace hb:=zn0 hb)))|((with_reducible apply Vl.mk (α:=List SV)); · exact QaR (by rw [hZl];rfl))|(apply Sd.mk; · exact ⟨rfl,rfl,rfl,(by show 0+_≤Z.length;rw [hZl];exact Nat.le_refl 52)⟩)|refine zst ?_|refine zbx ?_ ?_|refine zgx ?_ ?_|refine eqR ?_));(all_goals (try (conv=>whnf)))
  all_goals first|(exfalso;omega)|(exfalso;simp at hb;done)|(apply Fin.mk (m:= [(0,some 0),(1,some 1),(2,some 4),(3,some 5),(4,some 6),(5,some 7)]);(focus exact rfl);(all_goals ((try (show HlS _ _ [] _));first|(exact aFi)|exact rfl)))
theorem Qi6:∀ (l:List Ev) (r:Rk),(Qhn r l).M.m.length=r.M.m.length
 | [],_=>rfl
 | e::l,r=>(Qi6 l (r.off e)).trans (Qb9 r e).2.2
theorem Quz (r:Rk) (B:Nat) (h:r.ok B):r.go.M.m.length=r.M.m.length:=by
 have e:=Qec r.M h.M r.ck
 unfold Rk.go
 dsimp only
 exact e
theorem Qix:∀ (k:Nat) (r:Rk) (os:List (List SV)) (B:Nat),r.ok B→(Qj6 k r os).1.M.m.length=r.M.m.length
 | 0,r,os,B,h=>rfl
 | k+1,r,os,B,h=>by
  have hd:=Qks r B h
  have hl:=(Qqs r).2.2
  have hg:=Quz r.due _ hd
  have hi:=Qix k r.due.go (os++(Qb8 r.due.M r.due.ck).2.toList) _ (QsB _ _ hd)
  unfold Qj6
  generalize r.due.go=G at *
  generalize (Qb8 r.due.M r.due.ck).2.toList=O at *
  generalize r.due=R at *
  generalize QoX R.M=st at *
  split
  ·exact hl
  ·exact hi.trans (hg.trans hl)
theorem Qvs (O:Rk) (B:Nat) (h:O.ok B):(Rk.mk O.M O.ck O.lg O.LG []).ok B:=by
 obtain ⟨hM,hck,hll,hls,hlk,hlb,_,_⟩:=h
 exact ⟨hM,hck,hll,hls,hlk,hlb,Nat.zero_le _,fun e h=>by cases h⟩
theorem QxH (r:Rk) (cl:Nat) (hcl:cl<4294967296) (B:Nat) (h:r.ok B):(Rk.mk r.M (max r.ck cl) r.lg r.LG r.es).ok B:=by
 obtain ⟨hM,_,hll,hls,hlk,hlb,hql,hqe⟩:=h
 exact ⟨hM,by show max _ _<_;omega,hll,hls,hlk,hlb,hql,hqe⟩
theorem Qse (r:Rk) (s:Int) (cl:Nat):Qda r s cl=if QiZ r.M=true then Qj6 (QjK s).toNat (Rk.mk (Qhn (Rk.mk r.M (max r.ck cl) r.lg r.LG r.es) r.es).M (Qhn (Rk.mk r.M (max r.ck cl) r.lg r.LG r.es) r.es).ck (Qhn (Rk.mk r.M (max r.ck cl) r.lg r.LG r.es) r.es).lg (Qhn (Rk.mk r.M (max r.ck cl) r.lg r.LG r.es) r.es).LG []) [] else (r,[]):=rfl
theorem QnH (r:Rk) (s:Int) (cl:Nat) (hcl:cl<4294967296) (B:Nat) (h:r.ok B):(Qda r s cl).1.M.m.length=r.M.m.length:=by
 have h2:=QhU r.es _ B (QxH r cl hcl B h) h.qe
 have h4:=Qi6 r.es (Rk.mk r.M (max r.ck cl) r.lg r.LG r.es)
 have h5:=Qvs _ _ h2
 rw [Qse]
 generalize Qhn (Rk.mk r.M (max r.ck cl) r.lg r.LG r.es) r.es=O at *
 have h6:=Qix (QjK s).toNat _ [] _ h5
 by_cases hm:QiZ r.M=true
 ·rw [if_pos hm,h6]
  exact h4
 ·rw [if_neg hm]
theorem QrM (r:Rk) (e:Ev):(r.arr e).1.M.m.length=r.M.m.length:=by
 unfold Rk.arr
 split<;>rfl
theorem QoC (r:Rk) (e:Ev):((r.arr e).1,([]:List (List SV))).1.M.m.length=r.M.m.length:=QrM r e
theorem QnU (r:Rk) (n:Int) (B:Nat) (h:r.ok B):(QdM r n).1.M.m.length=r.M.m.length:=by
 have h1:=QoC r (evV n)
 have h2:=QnH r (mix n 3 / 16%12) (w32 (bits .and .i64 (mix n 3 / 4096) 255)) (Qax _) B h
 unfold QdM
 generalize Qda r (mix n 3 / 16%12) (w32 (bits .and .i64 (mix n 3 / 4096) 255))=Y at *
 generalize ((r.arr (evV n)).1,([]:List (List SV)))=W at *
 generalize mix n 3%3=v at *
 by_cases hv:v=0
 ·rw [if_pos hv];exact h1
 ·rw [if_neg hv];exact h2
theorem Qlh:∀ (l:List Int) (r:Rk) (os:List (List SV)) (B:Nat),r.ok B→(plS r os l).1.M.m.length=r.M.m.length
 | [],_,_,_,_=>rfl
 | a::l,r,os,B,h=>by
  have h1:=(QfM r a B h).1
  have h2:=QnU r a B h
  unfold plS
  generalize QdM r a=Y at *
  exact (Qlh l Y.1 (os++Y.2) _ h1).trans h2
end Go.Proofs.YtjgikeckbeeehaaGreat
