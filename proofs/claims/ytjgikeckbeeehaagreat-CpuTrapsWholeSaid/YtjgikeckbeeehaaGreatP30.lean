import Derived.Test.YtjgikeckbeeehaaGreatP24
import Derived.Test.YtjgikeckbeeehaaGreatP29
set_option linter.unusedSimpArgs false
set_option linter.unusedVariables false
set_option maxHeartbeats 100000000
set_option maxRecDepth 100000
namespace Go.Proofs.YtjgikeckbeeehaaGreat
open Go Go.RowKit
def rcQ (R:Res):Prop:=∃ M:Mc,M.ok∧M.m.length=256∧R=⟨.a (.agg (M.C 2)),[],[⟨true,1,wsv M.m⟩]⟩
theorem Qfh (kind:Int) (ls acts:List Int) (n k:Nat) (hn:ls.length=n) (hk:acts.length=k) (hk2:k≤30) (hMc:Fn Tryz.prog 43 [.s (.int .i64 kind),.s (.sl 0 0 n)] [⟨false,1,isv .i64 ls⟩] mcQ):Fn Tryz.prog 17 [.s (.int .i64 kind),.s (.sl 0 0 n),.s (.sl 1 0 k)] [⟨false,1,isv .i64 ls⟩,⟨false,1,isv .i64 acts⟩] rcQ:=by
 have hsA:=QaH .i64 ls
 have hsB:=QaH .i64 acts
 refine fnW Tryz.func17 ?_
 (repeat' ((conv=>whnf);first|(intro hb;first|exact zk4 hb|(try (replace hb:=zn4 hb)))|(refine QbK hMc [⟨_,0⟩] [(_,_)] aRn ⟨rfl,trivial⟩ ⟨rfl,Qaw (by assumption),trivial⟩ ?_ ?_;(focus (rintro R ⟨M3,_,_,rfl⟩;exact ⟨(by show 1≤Qam;decide),fun p h=>by cases h⟩));rintro R ⟨M1,hok1,hl1,rfl⟩;have qp:=QrW M1 hok1 acts k hk hk2;obtain ⟨hpk,hpo⟩:=Qqm acts ⟨M1,0,0,[],[]⟩ [] 0 (QhB M1 hok1) (fun l h=>by cases h);have hpl:=Qlh acts ⟨M1,0,0,[],[]⟩ [] 0 (QhB M1 hok1);generalize plS ⟨M1,0,0,[],[]⟩ [] acts=D at *;obtain ⟨⟨M2,ck2,lg2,LG2,es2⟩,os2⟩:=D;have hok2:=hpk.M;have hl2:=hpk.ls;have hq2:=QaY es2;obtain ⟨hO31,hO32,hO33⟩:=QdO hpo;have hs1:=Qaa M1.m;have hs2:=Qaa M2.m;have hfinQ:rcQ ⟨.a (.agg (M2.C 2)),[],[⟨true,1,wsv M2.m⟩]⟩:=⟨M2,hok2,hpl.trans hl1,rfl⟩;clear hpl hl1;have hx1:=hok1.x;have hc1:=hok1.c;have hx2:=hok2.x;have hc2:=hok2.c;clear hpk hpo hok1 hok2;dsimp only [Rk.C,Rk.T] at *;generalize OLs os2=OL3 at *;generalize os2.length=ol3 at *;generalize evs es2=QU2 at *;generalize es2.length=qu2 at *;generalize hX1:wsv M1.m=X1 at *;generalize hX2:wsv M2.m=X2 at *;obtain ⟨_,_,_,me,_,_,_,_,de,ne,_,_,_,_,_⟩:=M1;dsimp only at *;obtain ⟨_,_,_,_,_,_,_,_,_,_,_,_,_,_,_,_,rfl⟩:=Qaq hx1;obtain ⟨_,_,_,_,_,_,_,_,rfl⟩:=QaJ hc1;obtain ⟨_,_,_,_,_,_,_,_⟩:=de;obtain ⟨_,_,_,_,_,_⟩:=ne;obtain ⟨_,_,_,mf,_,_,_,_,df,nf,_,_,_,_,_⟩:=M2;dsimp only at *;obtain ⟨_,_,_,_,_,_,_,_,_,_,_,_,_,_,_,_,rfl⟩:=Qaq hx2;obtain ⟨_,_,_,_,_,_,_,_,rfl⟩:=QaJ hc2;obtain ⟨_,_,_,_,_,_,_,_⟩:=df;obtain ⟨_,_,_,_,_,_⟩:=nf;simp only [Qaf,List.cons_append,List.nil_append,Mc.C,Mc.D,Dk.C,Nk.C] at *;generalize me.length=nn1 at *;generalize mf.length=nn2 at *)|(refine Qb5 qp ?_)|refine zst ?_|refine zbx ?_ ?_|refine zgx ?_ ?_|refine eqR ?_));(all_goals (try (conv=>whnf)))
 all_goals first|(exfalso;omega)|(exfalso;simp at hb;done)|(refine QaS hfinQ ?_;(exact QgO))
end Go.Proofs.YtjgikeckbeeehaaGreat
