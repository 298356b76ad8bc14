import Derived.Test.YtflaceijiphfdaaGreatP12
set_option linter.unusedSimpArgs false
set_option linter.unusedVariables false
set_option maxHeartbeats 0
set_option maxRecDepth 100000
namespace Go.Proofs.YtflaceijiphfdaaGreat
open Go Go.RowKit
def Qjt (op:Int):Int:=if op=16 then 1 else if op=17 then 3 else if op=18 then 4 else if op=19 then 5 else if op=20 then 6 else if op=21 then 7 else if op=22 then 8 else if op=23 then 12 else op
theorem Qb8 (op:Int):FN 163 [.s (.i op)] [] (. =⟨.a (.s (.i (Qjt op))),[],[]⟩):=by
 refine fnW Tryz.func163 ?_;(conv=>whnf);(repeat' ((first|exact zi0|refine zj0 fun hb=>?_|refine zs0 ?_|refine zbb ?_ ?_)<;>conv=>whnf))
 all_goals
  apply Qam
  (focus rfl)
  first
   | (subst hb;rfl)
   | (
     simp only [Qba];have e:Qjt op=op:=by (unfold Qjt;repeat rw [zN (by omega)])
     rw [e])
theorem QtJ (op:Int) (h:op<16\/23<op):FN 163 [.s (.i op)] [] (. =⟨.a (.s (.i op)),[],[]⟩):=by
 have:=Qb8 op
 have e:Qjt op=op:=by
  unfold Qjt;repeat rw [zN (by omega)]
 rw [e] at this;exact this
theorem QqV (op:Int) (a b:Nat) (ha:ZU a) (fM:ZU b):FN 95 [.s (.i op),.s (.u a),.s (.u b)] [] (. =⟨.tup [.s (.u (Qhd op a b)),.s (.bool (QbS op))],[],[]⟩):=by
 have hc:(op=16\/op=17\/op=18\/op=19\/op=20\/op=21\/op=22\/op=23)\/(op<16\/23<op):=by omega
 rcases hc with (rfl|rfl|rfl|rfl|rfl|rfl|rfl|rfl)|hc
 all_goals refine fnW Tryz.func95 ?_
 all_goals (conv=>whnf);(repeat' ((first|exact zi0|refine zj0 fun hb=>?_|(refine Qac (f:=163) (QtJ _ hc) rfl ?_)|(refine Qac (f:=163) ((Qb8 _:Fn _ _ [.s (.i 16)] [] (. =⟨.a (.s (.i 1)),[],[]⟩))) rfl ?_)|(refine Qac (f:=163) ((Qb8 _:Fn _ _ [.s (.i 17)] [] (. =⟨.a (.s (.i 3)),[],[]⟩))) rfl ?_)|(refine Qac (f:=163) ((Qb8 _:Fn _ _ [.s (.i 18)] [] (. =⟨.a (.s (.i 4)),[],[]⟩))) rfl ?_)|(refine Qac (f:=163) ((Qb8 _:Fn _ _ [.s (.i 19)] [] (. =⟨.a (.s (.i 5)),[],[]⟩))) rfl ?_)|(refine Qac (f:=163) ((Qb8 _:Fn _ _ [.s (.i 20)] [] (. =⟨.a (.s (.i 6)),[],[]⟩))) rfl ?_)|(refine Qac (f:=163) ((Qb8 _:Fn _ _ [.s (.i 21)] [] (. =⟨.a (.s (.i 7)),[],[]⟩))) rfl ?_)|(refine Qac (f:=163) ((Qb8 _:Fn _ _ [.s (.i 22)] [] (. =⟨.a (.s (.i 8)),[],[]⟩))) rfl ?_)|(refine Qac (f:=163) ((Qb8 _:Fn _ _ [.s (.i 23)] [] (. =⟨.a (.s (.i 12)),[],[]⟩))) rfl ?_)|(refine Qac (f:=164) (Qng a b ha fM) rfl ?_)|(refine Qac (f:=152) (Qoo _) rfl ?_)|refine QHi ?_|refine zs0 ?_|refine zbb ?_ ?_)<;>conv=>whnf))
 all_goals
  apply Qam
  (focus rfl)
  simp only [Qba]
  first
   | rfl
   | (subst hb;rfl)
   | (
     have e1:Qhd op a b=0:=by
      unfold Qhd
      repeat rw [zN (by omega)]
     have e2:QbS op=false:=by
      unfold QbS;rw [decide_eq_false_iff_not];omega
     rw [e1,e2])
end Go.Proofs.YtflaceijiphfdaaGreat
