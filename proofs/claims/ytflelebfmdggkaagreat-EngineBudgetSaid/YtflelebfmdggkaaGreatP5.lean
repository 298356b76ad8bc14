import Derived.Test.YtflelebfmdggkaaGreatP4
import Derived.Test.YtflelebfmdggkaaGreatP30
set_option linter.unusedSimpArgs false
set_option linter.unusedVariables false
set_option maxHeartbeats 100000000
set_option maxRecDepth 100000
namespace Go.Proofs.YtflelebfmdggkaaGreat
open Go Go.RowKit
def QiQ (op:Int):Int:=if op=16 then 1 else if op=17 then 3 else if op=18 then 4 else if op=19 then 5 else if op=20 then 6 else if op=21 then 7 else if op=22 then 8 else if op=23 then 12 else op
theorem Qce (op:Int):FN 166 [.s (.i op)] [] (· =⟨.a (.s (.i (QiQ op))),[],[]⟩):=by
 refine fnW Tryz.func166 ?_;(repeat' ((conv=>whnf);first|exact zi0|(refine zj0 ?_;intro hb)|refine zs0 ?_|refine zbb ?_ ?_));all_goals (conv=>whnf)
 all_goals
  apply Qam
  (focus rfl)
  first
   | (subst hb;rfl)
   | (
     simp only [Qbc];have e:QiQ op=op:=by (unfold QiQ;repeat rw [zN (by omega)])
     rw [e])
theorem Qtr (op:Int) (h:op<16∨23<op):FN 166 [.s (.i op)] [] (· =⟨.a (.s (.i op)),[],[]⟩):=by
 have:=Qce op
 have e:QiQ op=op:=by
  unfold QiQ;repeat rw [zN (by omega)]
 rw [e] at this;exact this
theorem QrA (op:Int) (a b:Nat) (ha:a<4294967296) (fY:b<4294967296):FN 94 [.s (.i op),.s (.u a),.s (.u b)] [] (· =⟨.tup [.s (.u (Qhp op a b)),.s (.bool (QbX op))],[],[]⟩):=by
 have hc:(op=16∨op=17∨op=18∨op=19∨op=20∨op=21∨op=22∨op=23)∨(op<16∨23<op):=by omega
 rcases hc with (rfl|rfl|rfl|rfl|rfl|rfl|rfl|rfl)|hc
 all_goals refine fnW Tryz.func94 ?_
 all_goals (repeat' ((conv=>whnf);first|exact zi0|(refine zj0 ?_;intro hb)|(refine Qac (f:=166) (Qtr _ hc) rfl ?_)|(refine Qac (f:=166) ((Qce _:Fn _ _ [.s (.i 16)] [] (· =⟨.a (.s (.i 1)),[],[]⟩))) rfl ?_)|(refine Qac (f:=166) ((Qce _:Fn _ _ [.s (.i 17)] [] (· =⟨.a (.s (.i 3)),[],[]⟩))) rfl ?_)|(refine Qac (f:=166) ((Qce _:Fn _ _ [.s (.i 18)] [] (· =⟨.a (.s (.i 4)),[],[]⟩))) rfl ?_)|(refine Qac (f:=166) ((Qce _:Fn _ _ [.s (.i 19)] [] (· =⟨.a (.s (.i 5)),[],[]⟩))) rfl ?_)|(refine Qac (f:=166) ((Qce _:Fn _ _ [.s (.i 20)] [] (· =⟨.a (.s (.i 6)),[],[]⟩))) rfl ?_)|(refine Qac (f:=166) ((Qce _:Fn _ _ [.s (.i 21)] [] (· =⟨.a (.s (.i 7)),[],[]⟩))) rfl ?_)|(refine Qac (f:=166) ((Qce _:Fn _ _ [.s (.i 22)] [] (· =⟨.a (.s (.i 8)),[],[]⟩))) rfl ?_)|(refine Qac (f:=166) ((Qce _:Fn _ _ [.s (.i 23)] [] (· =⟨.a (.s (.i 12)),[],[]⟩))) rfl ?_)|(refine Qac (f:=167) (Qm4 a b ha fY) rfl ?_)|(refine Qac (f:=155) (Qqg _) rfl ?_)|refine QIl ?_|refine zs0 ?_|refine zbb ?_ ?_));all_goals (conv=>whnf)
 all_goals
  apply Qam
  (focus rfl)
  simp only [Qbc]
  first
   | rfl
   | (subst hb;rfl)
   | (
     have e1:Qhp op a b=0:=by
      unfold Qhp
      repeat rw [zN (by omega)]
     have e2:QbX op=false:=by
      unfold QbX;rw [decide_eq_false_iff_not];omega
     rw [e1,e2])
end Go.Proofs.YtflelebfmdggkaaGreat
