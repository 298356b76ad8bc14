import Derived.Test.YtjgikeckbeeehaaGreatP6
set_option linter.unusedSimpArgs false
set_option linter.unusedVariables false
set_option maxHeartbeats 100000000
set_option maxRecDepth 100000
namespace Go.Proofs.YtjgikeckbeeehaaGreat
open Go
theorem QnI : (Tryz.prog.funcs.toList.all fun fn => !(fn.name == "runtime.NumGoroutine")) = true := by kernel_rfl
noncomputable def QAn:FuncId→Option Fd:=fun f=>match Tryz.prog.funcs[f]? with
 | some fn=>(match fn.body with
  | some c=>some ⟨fn.ntmps,fn.results.toList,c⟩
  | none=>none)
 | none=>none
theorem Qwq : ∀ f d,QAn f = some d → ∃ fn,Tryz.prog.funcs[f]? = some fn ∧ (fn.name == "runtime.NumGoroutine") = false ∧ fn.body = some d.code ∧ fn.ntmps = d.N ∧ fn.results.toList = d.res := by
 intro f d h
 unfold QAn at h
 split at h
 ·rename_i fn hf
  split at h
  ·rename_i c hc
   injection h with h
   subst h
   refine ⟨fn,hf,?_,hc,rfl,rfl⟩
   have:=List.all_eq_true.1 QnI fn (by
    obtain ⟨hi,rfl⟩:=Array.getElem?_eq_some_iff.1 hf
    exact Array.getElem_mem_toList hi)
   simpa using this
  ·cases h
 ·cases h
noncomputable def fns:Fns Tryz.prog:=⟨QAn,Qwq⟩
theorem QrN (ks:List SK) (h:shp tys 8 7=some ks) (l1 l2:List SV) (b:Bool) (he:Qar ks l1 l2=some b):Qb2 Tryz.prog 7 l1 l2 b:=Qa6 QaL (y:=ty7) (by kernel_rfl) (by kernel_rfl) h (by kernel_rfl) (by kernel_rfl) he
theorem QtH (ks:List SK) (h:shp tys 8 8=some ks) (l1 l2:List SV) (b:Bool) (he:Qar ks l1 l2=some b):Qb2 Tryz.prog 8 l1 l2 b:=Qa6 QaL (y:=ty8) (by kernel_rfl) (by kernel_rfl) h (by kernel_rfl) (by kernel_rfl) he
theorem Qnk (ks:List SK) (h:shp tys 8 24=some ks) (l1 l2:List SV) (b:Bool) (he:Qar ks l1 l2=some b):Qb2 Tryz.prog 24 l1 l2 b:=Qa6 QaL (y:=ty24) (by kernel_rfl) (by kernel_rfl) h (by kernel_rfl) (by kernel_rfl) he
theorem Qpp (ks:List SK) (h:shp tys 8 25=some ks) (l1 l2:List SV) (b:Bool) (he:Qar ks l1 l2=some b):Qb2 Tryz.prog 25 l1 l2 b:=Qa6 QaL (y:=ty25) (by kernel_rfl) (by kernel_rfl) h (by kernel_rfl) (by kernel_rfl) he
theorem Qnp (ks:List SK) (h:shp tys 8 26=some ks) (l1 l2:List SV) (b:Bool) (he:Qar ks l1 l2=some b):Qb2 Tryz.prog 26 l1 l2 b:=Qa6 QaL (y:=ty26) (by kernel_rfl) (by kernel_rfl) h (by kernel_rfl) (by kernel_rfl) he
theorem Qon (ks:List SK) (h:shp tys 8 27=some ks) (l1 l2:List SV) (b:Bool) (he:Qar ks l1 l2=some b):Qb2 Tryz.prog 27 l1 l2 b:=Qa6 QaL (y:=ty27) (by kernel_rfl) (by kernel_rfl) h (by kernel_rfl) (by kernel_rfl) he
theorem Qn6 (ks:List SK) (h:shp tys 8 29=some ks) (l1 l2:List SV) (b:Bool) (he:Qar ks l1 l2=some b):Qb2 Tryz.prog 29 l1 l2 b:=Qa6 QaL (y:=ty29) (by kernel_rfl) (by kernel_rfl) h (by kernel_rfl) (by kernel_rfl) he
theorem Qph (ks:List SK) (h:shp tys 8 30=some ks) (l1 l2:List SV) (b:Bool) (he:Qar ks l1 l2=some b):Qb2 Tryz.prog 30 l1 l2 b:=Qa6 QaL (y:=ty30) (by kernel_rfl) (by kernel_rfl) h (by kernel_rfl) (by kernel_rfl) he
theorem QpQ (ks:List SK) (h:shp tys 8 31=some ks) (l1 l2:List SV) (b:Bool) (he:Qar ks l1 l2=some b):Qb2 Tryz.prog 31 l1 l2 b:=Qa6 QaL (y:=ty31) (by kernel_rfl) (by kernel_rfl) h (by kernel_rfl) (by kernel_rfl) he
theorem QoP (ks:List SK) (h:shp tys 8 32=some ks) (l1 l2:List SV) (b:Bool) (he:Qar ks l1 l2=some b):Qb2 Tryz.prog 32 l1 l2 b:=Qa6 QaL (y:=ty32) (by kernel_rfl) (by kernel_rfl) h (by kernel_rfl) (by kernel_rfl) he
theorem Qol (ks:List SK) (h:shp tys 8 33=some ks) (l1 l2:List SV) (b:Bool) (he:Qar ks l1 l2=some b):Qb2 Tryz.prog 33 l1 l2 b:=Qa6 QaL (y:=ty33) (by kernel_rfl) (by kernel_rfl) h (by kernel_rfl) (by kernel_rfl) he
theorem QpC (ks:List SK) (h:shp tys 8 34=some ks) (l1 l2:List SV) (b:Bool) (he:Qar ks l1 l2=some b):Qb2 Tryz.prog 34 l1 l2 b:=Qa6 QaL (y:=ty34) (by kernel_rfl) (by kernel_rfl) h (by kernel_rfl) (by kernel_rfl) he
theorem Qpc (ks:List SK) (h:shp tys 8 35=some ks) (l1 l2:List SV) (b:Bool) (he:Qar ks l1 l2=some b):Qb2 Tryz.prog 35 l1 l2 b:=Qa6 QaL (y:=ty35) (by kernel_rfl) (by kernel_rfl) h (by kernel_rfl) (by kernel_rfl) he
theorem Qpl (ks:List SK) (h:shp tys 8 36=some ks) (l1 l2:List SV) (b:Bool) (he:Qar ks l1 l2=some b):Qb2 Tryz.prog 36 l1 l2 b:=Qa6 QaL (y:=ty36) (by kernel_rfl) (by kernel_rfl) h (by kernel_rfl) (by kernel_rfl) he
theorem Qoa (ks:List SK) (h:shp tys 8 37=some ks) (l1 l2:List SV) (b:Bool) (he:Qar ks l1 l2=some b):Qb2 Tryz.prog 37 l1 l2 b:=Qa6 QaL (y:=ty37) (by kernel_rfl) (by kernel_rfl) h (by kernel_rfl) (by kernel_rfl) he
theorem Qo1 (ks:List SK) (h:shp tys 8 38=some ks) (l1 l2:List SV) (b:Bool) (he:Qar ks l1 l2=some b):Qb2 Tryz.prog 38 l1 l2 b:=Qa6 QaL (y:=ty38) (by kernel_rfl) (by kernel_rfl) h (by kernel_rfl) (by kernel_rfl) he
theorem Qn2 (ks:List SK) (h:shp tys 8 50=some ks) (l1 l2:List SV) (b:Bool) (he:Qar ks l1 l2=some b):Qb2 Tryz.prog 50 l1 l2 b:=Qa6 QaL (y:=ty50) (by kernel_rfl) (by kernel_rfl) h (by kernel_rfl) (by kernel_rfl) he
theorem Qov (ks:List SK) (h:shp tys 8 51=some ks) (l1 l2:List SV) (b:Bool) (he:Qar ks l1 l2=some b):Qb2 Tryz.prog 51 l1 l2 b:=Qa6 QaL (y:=ty51) (by kernel_rfl) (by kernel_rfl) h (by kernel_rfl) (by kernel_rfl) he
theorem Qnv (ks:List SK) (h:shp tys 8 67=some ks) (l1 l2:List SV) (b:Bool) (he:Qar ks l1 l2=some b):Qb2 Tryz.prog 67 l1 l2 b:=Qa6 QaL (y:=ty67) (by kernel_rfl) (by kernel_rfl) h (by kernel_rfl) (by kernel_rfl) he
theorem Qos (ks:List SK) (h:shp tys 8 68=some ks) (l1 l2:List SV) (b:Bool) (he:Qar ks l1 l2=some b):Qb2 Tryz.prog 68 l1 l2 b:=Qa6 QaL (y:=ty68) (by kernel_rfl) (by kernel_rfl) h (by kernel_rfl) (by kernel_rfl) he
theorem QnQ (ks:List SK) (h:shp tys 8 74=some ks) (l1 l2:List SV) (b:Bool) (he:Qar ks l1 l2=some b):Qb2 Tryz.prog 74 l1 l2 b:=Qa6 QaL (y:=ty74) (by kernel_rfl) (by kernel_rfl) h (by kernel_rfl) (by kernel_rfl) he
theorem Qpb (ks:List SK) (h:shp tys 8 75=some ks) (l1 l2:List SV) (b:Bool) (he:Qar ks l1 l2=some b):Qb2 Tryz.prog 75 l1 l2 b:=Qa6 QaL (y:=ty75) (by kernel_rfl) (by kernel_rfl) h (by kernel_rfl) (by kernel_rfl) he
theorem QkK (ks:List SK) (h:shp tys 8 110=some ks) (l1 l2:List SV) (b:Bool) (he:Qar ks l1 l2=some b):Qb2 Tryz.prog 110 l1 l2 b:=Qa6 QaL (y:=ty110) (by kernel_rfl) (by kernel_rfl) h (by kernel_rfl) (by kernel_rfl) he
theorem Qmj (ks:List SK) (h:shp tys 8 111=some ks) (l1 l2:List SV) (b:Bool) (he:Qar ks l1 l2=some b):Qb2 Tryz.prog 111 l1 l2 b:=Qa6 QaL (y:=ty111) (by kernel_rfl) (by kernel_rfl) h (by kernel_rfl) (by kernel_rfl) he
theorem QmW (ks:List SK) (h:shp tys 8 125=some ks) (l1 l2:List SV) (b:Bool) (he:Qar ks l1 l2=some b):Qb2 Tryz.prog 125 l1 l2 b:=Qa6 QaL (y:=ty125) (by kernel_rfl) (by kernel_rfl) h (by kernel_rfl) (by kernel_rfl) he
theorem QmY (ks:List SK) (h:shp tys 8 126=some ks) (l1 l2:List SV) (b:Bool) (he:Qar ks l1 l2=some b):Qb2 Tryz.prog 126 l1 l2 b:=Qa6 QaL (y:=ty126) (by kernel_rfl) (by kernel_rfl) h (by kernel_rfl) (by kernel_rfl) he
theorem QkA (ks:List SK) (h:shp tys 8 146=some ks) (l1 l2:List SV) (b:Bool) (he:Qar ks l1 l2=some b):Qb2 Tryz.prog 146 l1 l2 b:=Qa6 QaL (y:=ty146) (by kernel_rfl) (by kernel_rfl) h (by kernel_rfl) (by kernel_rfl) he
theorem QkE (ks:List SK) (h:shp tys 8 147=some ks) (l1 l2:List SV) (b:Bool) (he:Qar ks l1 l2=some b):Qb2 Tryz.prog 147 l1 l2 b:=Qa6 QaL (y:=ty147) (by kernel_rfl) (by kernel_rfl) h (by kernel_rfl) (by kernel_rfl) he
theorem QkI (ks:List SK) (h:shp tys 8 157=some ks) (l1 l2:List SV) (b:Bool) (he:Qar ks l1 l2=some b):Qb2 Tryz.prog 157 l1 l2 b:=Qa6 QaL (y:=ty157) (by kernel_rfl) (by kernel_rfl) h (by kernel_rfl) (by kernel_rfl) he
theorem QmH (ks:List SK) (h:shp tys 8 158=some ks) (l1 l2:List SV) (b:Bool) (he:Qar ks l1 l2=some b):Qb2 Tryz.prog 158 l1 l2 b:=Qa6 QaL (y:=ty158) (by kernel_rfl) (by kernel_rfl) h (by kernel_rfl) (by kernel_rfl) he
theorem Qmu (ks:List SK) (h:shp tys 8 163=some ks) (l1 l2:List SV) (b:Bool) (he:Qar ks l1 l2=some b):Qb2 Tryz.prog 163 l1 l2 b:=Qa6 QaL (y:=ty163) (by kernel_rfl) (by kernel_rfl) h (by kernel_rfl) (by kernel_rfl) he
theorem QmX (ks:List SK) (h:shp tys 8 164=some ks) (l1 l2:List SV) (b:Bool) (he:Qar ks l1 l2=some b):Qb2 Tryz.prog 164 l1 l2 b:=Qa6 QaL (y:=ty164) (by kernel_rfl) (by kernel_rfl) h (by kernel_rfl) (by kernel_rfl) he
theorem Qlb (ks:List SK) (h:shp tys 8 177=some ks) (l1 l2:List SV) (b:Bool) (he:Qar ks l1 l2=some b):Qb2 Tryz.prog 177 l1 l2 b:=Qa6 QaL (y:=ty177) (by kernel_rfl) (by kernel_rfl) h (by kernel_rfl) (by kernel_rfl) he
theorem Qkf (ks:List SK) (h:shp tys 8 178=some ks) (l1 l2:List SV) (b:Bool) (he:Qar ks l1 l2=some b):Qb2 Tryz.prog 178 l1 l2 b:=Qa6 QaL (y:=ty178) (by kernel_rfl) (by kernel_rfl) h (by kernel_rfl) (by kernel_rfl) he
theorem Qkw (ks:List SK) (h:shp tys 8 199=some ks) (l1 l2:List SV) (b:Bool) (he:Qar ks l1 l2=some b):Qb2 Tryz.prog 199 l1 l2 b:=Qa6 QaL (y:=ty199) (by kernel_rfl) (by kernel_rfl) h (by kernel_rfl) (by kernel_rfl) he
theorem QmP (ks:List SK) (h:shp tys 8 200=some ks) (l1 l2:List SV) (b:Bool) (he:Qar ks l1 l2=some b):Qb2 Tryz.prog 200 l1 l2 b:=Qa6 QaL (y:=ty200) (by kernel_rfl) (by kernel_rfl) h (by kernel_rfl) (by kernel_rfl) he
theorem Qls (ks:List SK) (h:shp tys 8 214=some ks) (l1 l2:List SV) (b:Bool) (he:Qar ks l1 l2=some b):Qb2 Tryz.prog 214 l1 l2 b:=Qa6 QaL (y:=ty214) (by kernel_rfl) (by kernel_rfl) h (by kernel_rfl) (by kernel_rfl) he
theorem Qke (ks:List SK) (h:shp tys 8 215=some ks) (l1 l2:List SV) (b:Bool) (he:Qar ks l1 l2=some b):Qb2 Tryz.prog 215 l1 l2 b:=Qa6 QaL (y:=ty215) (by kernel_rfl) (by kernel_rfl) h (by kernel_rfl) (by kernel_rfl) he
noncomputable def Qxm:TypeId→Option (List SK):=fun t=>(match Nat.blt t 68 with|true=>(match Nat.blt t 32 with|true=>(match Nat.blt t 26 with|true=>(match Nat.blt t 24 with|true=>(match Nat.blt t 8 with|true=>(match Nat.beq t 7 with|true=>shp tys 8 7|false=>none)|false=>(match Nat.beq t 8 with|true=>shp tys 8 8|false=>none))|false=>(match Nat.blt t 25 with|true=>(match Nat.beq t 24 with|true=>shp tys 8 24|false=>none)|false=>(match Nat.beq t 25 with|true=>shp tys 8 25|false=>none)))|false=>(match Nat.blt t 29 with|true=>(match Nat.blt t 27 with|true=>(match Nat.beq t 26 with|true=>shp tys 8 26|false=>none)|false=>(match Nat.beq t 27 with|true=>shp tys 8 27|false=>none))|false=>(match Nat.blt t 30 with|true=>(match Nat.beq t 29 with|true=>shp tys 8 29|false=>none)|false=>(match Nat.blt t 31 with|true=>(match Nat.beq t 30 with|true=>shp tys 8 30|false=>none)|false=>(match Nat.beq t 31 with|true=>shp tys 8 31|false=>none)))))|false=>(match Nat.blt t 37 with|true=>(match Nat.blt t 34 with|true=>(match Nat.blt t 33 with|true=>(match Nat.beq t 32 with|true=>shp tys 8 32|false=>none)|false=>(match Nat.beq t 33 with|true=>shp tys 8 33|false=>none))|false=>(match Nat.blt t 35 with|true=>(match Nat.beq t 34 with|true=>shp tys 8 34|false=>none)|false=>(match Nat.blt t 36 with|true=>(match Nat.beq t 35 with|true=>shp tys 8 35|false=>none)|false=>(match Nat.beq t 36 with|true=>shp tys 8 36|false=>none))))|false=>(match Nat.blt t 50 with|true=>(match Nat.blt t 38 with|true=>(match Nat.beq t 37 with|true=>shp tys 8 37|false=>none)|false=>(match Nat.beq t 38 with|true=>shp tys 8 38|false=>none))|false=>(match Nat.blt t 51 with|true=>(match Nat.beq t 50 with|true=>shp tys 8 50|false=>none)|false=>(match Nat.blt t 67 with|true=>(match Nat.beq t 51 with|true=>shp tys 8 51|false=>none)|false=>(match Nat.beq t 67 with|true=>shp tys 8 67|false=>none))))))|false=>(match Nat.blt t 157 with|true=>(match Nat.blt t 111 with|true=>(match Nat.blt t 75 with|true=>(match Nat.blt t 74 with|true=>(match Nat.beq t 68 with|true=>shp tys 8 68|false=>none)|false=>(match Nat.beq t 74 with|true=>shp tys 8 74|false=>none))|false=>(match Nat.blt t 110 with|true=>(match Nat.beq t 75 with|true=>shp tys 8 75|false=>none)|false=>(match Nat.beq t 110 with|true=>shp tys 8 110|false=>none)))|false=>(match Nat.blt t 126 with|true=>(match Nat.blt t 125 with|true=>(match Nat.beq t 111 with|true=>shp tys 8 111|false=>none)|false=>(match Nat.beq t 125 with|true=>shp tys 8 125|false=>none))|false=>(match Nat.blt t 146 with|true=>(match Nat.beq t 126 with|true=>shp tys 8 126|false=>none)|false=>(match Nat.blt t 147 with|true=>(match Nat.beq t 146 with|true=>shp tys 8 146|false=>none)|false=>(match Nat.beq t 147 with|true=>shp tys 8 147|false=>none)))))|false=>(match Nat.blt t 178 with|true=>(match Nat.blt t 163 with|true=>(match Nat.blt t 158 with|true=>(match Nat.beq t 157 with|true=>shp tys 8 157|false=>none)|false=>(match Nat.beq t 158 with|true=>shp tys 8 158|false=>none))|false=>(match Nat.blt t 164 with|true=>(match Nat.beq t 163 with|true=>shp tys 8 163|false=>none)|false=>(match Nat.blt t 177 with|true=>(match Nat.beq t 164 with|true=>shp tys 8 164|false=>none)|false=>(match Nat.beq t 177 with|true=>shp tys 8 177|false=>none))))|false=>(match Nat.blt t 200 with|true=>(match Nat.blt t 199 with|true=>(match Nat.beq t 178 with|true=>shp tys 8 178|false=>none)|false=>(match Nat.beq t 199 with|true=>shp tys 8 199|false=>none))|false=>(match Nat.blt t 214 with|true=>(match Nat.beq t 200 with|true=>shp tys 8 200|false=>none)|false=>(match Nat.blt t 215 with|true=>(match Nat.beq t 214 with|true=>shp tys 8 214|false=>none)|false=>(match Nat.beq t 215 with|true=>shp tys 8 215|false=>none)))))))
theorem Qcq:∀ t ks,Qxm t=some ks→∀ l1 l2 b,Qar ks l1 l2=some b→Qb2 Tryz.prog t l1 l2 b:=by
 intro t y h
 unfold Qxm at h
 repeat' split at h
 all_goals first
  | (cases h;done)
  | (rename_i hb;obtain rfl:=Nat.eq_of_beq_eq_true hb;first|with_reducible exact QrN _ h|with_reducible exact QtH _ h|with_reducible exact Qnk _ h|with_reducible exact Qpp _ h|with_reducible exact Qnp _ h|with_reducible exact Qon _ h|with_reducible exact Qn6 _ h|with_reducible exact Qph _ h|with_reducible exact QpQ _ h|with_reducible exact QoP _ h|with_reducible exact Qol _ h|with_reducible exact QpC _ h|with_reducible exact Qpc _ h|with_reducible exact Qpl _ h|with_reducible exact Qoa _ h|with_reducible exact Qo1 _ h|with_reducible exact Qn2 _ h|with_reducible exact Qov _ h|with_reducible exact Qnv _ h|with_reducible exact Qos _ h|with_reducible exact QnQ _ h|with_reducible exact Qpb _ h|with_reducible exact QkK _ h|with_reducible exact Qmj _ h|with_reducible exact QmW _ h|with_reducible exact QmY _ h|with_reducible exact QkA _ h|with_reducible exact QkE _ h|with_reducible exact QkI _ h|with_reducible exact QmH _ h|with_reducible exact Qmu _ h|with_reducible exact QmX _ h|with_reducible exact Qlb _ h|with_reducible exact Qkf _ h|with_reducible exact Qkw _ h|with_reducible exact QmP _ h|with_reducible exact Qls _ h|with_reducible exact Qke _ h)
noncomputable def eqt:EqT Tryz.prog:=⟨Qxm,Qcq⟩
noncomputable def Qc3:Ctr Tryz.prog:=⟨fun _ _ _=>none,fun _ _ _ _ h=>by cases h⟩
theorem QaX {fuel depth:Nat} {f:FuncId} {args:List AV} {R:Res} (h:QaW eqt tys true fns Qc3 fuel depth f args []=some R):Fn Tryz.prog f args [] (· =R):=Qh8 QsQ QaL depth f args [] R (fun _ h=>by cases h) h
theorem eqR {t:TypeId} {l1 l2:List SV} {K:Bool→Prop} {ks:List SK} {b:Bool} (k:K b) (h1:Qxm t=some ks:=by exact rfl) (h2:Qar ks l1 l2=some b:=by exact rfl):Eqs Tryz.prog t l1 l2 K:= .mk b (Qcq t ks h1 l1 l2 b h2) k
end Go.Proofs.YtjgikeckbeeehaaGreat
