/- The functions of the program and its comparable types, for runs. -/
import Derived.Test.YtnmomjaockmdpaaRunE
import Derived.Test.YtnmomjaockmdpaaTys
import Derived.Test.YtnmomjaockmdpaaAbsS
namespace Go.Proofs.Ytnmomjaockmdpaa
open Go
set_option maxRecDepth 100000

noncomputable def fd2 : Fd := ⟨1, Try.f2.results.toList, Try.f2.body.getD .skip⟩
noncomputable def fd3 : Fd := ⟨84, Try.f3.results.toList, Try.f3.body.getD .skip⟩
noncomputable def fd4 : Fd := ⟨90, Try.f4.results.toList, Try.f4.body.getD .skip⟩
noncomputable def fd5 : Fd := ⟨19, Try.f5.results.toList, Try.f5.body.getD .skip⟩
noncomputable def fd6 : Fd := ⟨45, Try.f6.results.toList, Try.f6.body.getD .skip⟩
noncomputable def fd7 : Fd := ⟨47, Try.f7.results.toList, Try.f7.body.getD .skip⟩
noncomputable def fd8 : Fd := ⟨26, Try.f8.results.toList, Try.f8.body.getD .skip⟩
noncomputable def fd9 : Fd := ⟨26, Try.f9.results.toList, Try.f9.body.getD .skip⟩
noncomputable def fd10 : Fd := ⟨26, Try.f10.results.toList, Try.f10.body.getD .skip⟩
noncomputable def fd11 : Fd := ⟨38, Try.f11.results.toList, Try.f11.body.getD .skip⟩
noncomputable def fd12 : Fd := ⟨23, Try.f12.results.toList, Try.f12.body.getD .skip⟩
noncomputable def fd13 : Fd := ⟨59, Try.f13.results.toList, Try.f13.body.getD .skip⟩
noncomputable def fd14 : Fd := ⟨15, Try.f14.results.toList, Try.f14.body.getD .skip⟩
noncomputable def fd15 : Fd := ⟨71, Try.f15.results.toList, Try.f15.body.getD .skip⟩
noncomputable def fd16 : Fd := ⟨11, Try.f16.results.toList, Try.f16.body.getD .skip⟩
noncomputable def fd17 : Fd := ⟨8, Try.f17.results.toList, Try.f17.body.getD .skip⟩
noncomputable def fd18 : Fd := ⟨38, Try.f18.results.toList, Try.f18.body.getD .skip⟩
noncomputable def fd19 : Fd := ⟨11, Try.f19.results.toList, Try.f19.body.getD .skip⟩
noncomputable def fd20 : Fd := ⟨6, Try.f20.results.toList, Try.f20.body.getD .skip⟩
noncomputable def fd21 : Fd := ⟨5, Try.f21.results.toList, Try.f21.body.getD .skip⟩
noncomputable def fd22 : Fd := ⟨12, Try.f22.results.toList, Try.f22.body.getD .skip⟩
noncomputable def fd23 : Fd := ⟨15, Try.f23.results.toList, Try.f23.body.getD .skip⟩
noncomputable def fd24 : Fd := ⟨20, Try.f24.results.toList, Try.f24.body.getD .skip⟩
noncomputable def fd25 : Fd := ⟨11, Try.f25.results.toList, Try.f25.body.getD .skip⟩
noncomputable def fd26 : Fd := ⟨28, Try.f26.results.toList, Try.f26.body.getD .skip⟩
noncomputable def fd27 : Fd := ⟨21, Try.f27.results.toList, Try.f27.body.getD .skip⟩
noncomputable def fd28 : Fd := ⟨15, Try.f28.results.toList, Try.f28.body.getD .skip⟩
noncomputable def fd29 : Fd := ⟨30, Try.f29.results.toList, Try.f29.body.getD .skip⟩
noncomputable def fd30 : Fd := ⟨36, Try.f30.results.toList, Try.f30.body.getD .skip⟩
noncomputable def fd31 : Fd := ⟨30, Try.f31.results.toList, Try.f31.body.getD .skip⟩
noncomputable def fd32 : Fd := ⟨24, Try.f32.results.toList, Try.f32.body.getD .skip⟩
noncomputable def fd33 : Fd := ⟨23, Try.f33.results.toList, Try.f33.body.getD .skip⟩
noncomputable def fd34 : Fd := ⟨9, Try.f34.results.toList, Try.f34.body.getD .skip⟩
def FdOk (i : Nat) (d : Fd) : Prop := ∃ fn, Try.prog.funcs[i]? = some fn ∧ (fn.name == "runtime.NumGoroutine") = false ∧ fn.body = some d.code ∧ fn.ntmps = d.N ∧ fn.results.toList = d.res
theorem fd2_ok : FdOk 2 fd2 := ⟨Try.f2, Try.func2, by kernel_rfl, rfl, rfl, rfl⟩
theorem fd3_ok : FdOk 3 fd3 := ⟨Try.f3, Try.func3, by kernel_rfl, rfl, rfl, rfl⟩
theorem fd4_ok : FdOk 4 fd4 := ⟨Try.f4, Try.func4, by kernel_rfl, rfl, rfl, rfl⟩
theorem fd5_ok : FdOk 5 fd5 := ⟨Try.f5, Try.func5, by kernel_rfl, rfl, rfl, rfl⟩
theorem fd6_ok : FdOk 6 fd6 := ⟨Try.f6, Try.func6, by kernel_rfl, rfl, rfl, rfl⟩
theorem fd7_ok : FdOk 7 fd7 := ⟨Try.f7, Try.func7, by kernel_rfl, rfl, rfl, rfl⟩
theorem fd8_ok : FdOk 8 fd8 := ⟨Try.f8, Try.func8, by kernel_rfl, rfl, rfl, rfl⟩
theorem fd9_ok : FdOk 9 fd9 := ⟨Try.f9, Try.func9, by kernel_rfl, rfl, rfl, rfl⟩
theorem fd10_ok : FdOk 10 fd10 := ⟨Try.f10, Try.func10, by kernel_rfl, rfl, rfl, rfl⟩
theorem fd11_ok : FdOk 11 fd11 := ⟨Try.f11, Try.func11, by kernel_rfl, rfl, rfl, rfl⟩
theorem fd12_ok : FdOk 12 fd12 := ⟨Try.f12, Try.func12, by kernel_rfl, rfl, rfl, rfl⟩
theorem fd13_ok : FdOk 13 fd13 := ⟨Try.f13, Try.func13, by kernel_rfl, rfl, rfl, rfl⟩
theorem fd14_ok : FdOk 14 fd14 := ⟨Try.f14, Try.func14, by kernel_rfl, rfl, rfl, rfl⟩
theorem fd15_ok : FdOk 15 fd15 := ⟨Try.f15, Try.func15, by kernel_rfl, rfl, rfl, rfl⟩
theorem fd16_ok : FdOk 16 fd16 := ⟨Try.f16, Try.func16, by kernel_rfl, rfl, rfl, rfl⟩
theorem fd17_ok : FdOk 17 fd17 := ⟨Try.f17, Try.func17, by kernel_rfl, rfl, rfl, rfl⟩
theorem fd18_ok : FdOk 18 fd18 := ⟨Try.f18, Try.func18, by kernel_rfl, rfl, rfl, rfl⟩
theorem fd19_ok : FdOk 19 fd19 := ⟨Try.f19, Try.func19, by kernel_rfl, rfl, rfl, rfl⟩
theorem fd20_ok : FdOk 20 fd20 := ⟨Try.f20, Try.func20, by kernel_rfl, rfl, rfl, rfl⟩
theorem fd21_ok : FdOk 21 fd21 := ⟨Try.f21, Try.func21, by kernel_rfl, rfl, rfl, rfl⟩
theorem fd22_ok : FdOk 22 fd22 := ⟨Try.f22, Try.func22, by kernel_rfl, rfl, rfl, rfl⟩
theorem fd23_ok : FdOk 23 fd23 := ⟨Try.f23, Try.func23, by kernel_rfl, rfl, rfl, rfl⟩
theorem fd24_ok : FdOk 24 fd24 := ⟨Try.f24, Try.func24, by kernel_rfl, rfl, rfl, rfl⟩
theorem fd25_ok : FdOk 25 fd25 := ⟨Try.f25, Try.func25, by kernel_rfl, rfl, rfl, rfl⟩
theorem fd26_ok : FdOk 26 fd26 := ⟨Try.f26, Try.func26, by kernel_rfl, rfl, rfl, rfl⟩
theorem fd27_ok : FdOk 27 fd27 := ⟨Try.f27, Try.func27, by kernel_rfl, rfl, rfl, rfl⟩
theorem fd28_ok : FdOk 28 fd28 := ⟨Try.f28, Try.func28, by kernel_rfl, rfl, rfl, rfl⟩
theorem fd29_ok : FdOk 29 fd29 := ⟨Try.f29, Try.func29, by kernel_rfl, rfl, rfl, rfl⟩
theorem fd30_ok : FdOk 30 fd30 := ⟨Try.f30, Try.func30, by kernel_rfl, rfl, rfl, rfl⟩
theorem fd31_ok : FdOk 31 fd31 := ⟨Try.f31, Try.func31, by kernel_rfl, rfl, rfl, rfl⟩
theorem fd32_ok : FdOk 32 fd32 := ⟨Try.f32, Try.func32, by kernel_rfl, rfl, rfl, rfl⟩
theorem fd33_ok : FdOk 33 fd33 := ⟨Try.f33, Try.func33, by kernel_rfl, rfl, rfl, rfl⟩
theorem fd34_ok : FdOk 34 fd34 := ⟨Try.f34, Try.func34, by kernel_rfl, rfl, rfl, rfl⟩
noncomputable def fnsT : FuncId → Option Fd := fun t => (match Nat.blt t 18 with | true => (match Nat.blt t 10 with | true => (match Nat.blt t 6 with | true => (match Nat.blt t 4 with | true => (match Nat.blt t 3 with | true => (match Nat.beq t 2 with | true => some fd2 | false => none) | false => (match Nat.beq t 3 with | true => some fd3 | false => none)) | false => (match Nat.blt t 5 with | true => (match Nat.beq t 4 with | true => some fd4 | false => none) | false => (match Nat.beq t 5 with | true => some fd5 | false => none))) | false => (match Nat.blt t 8 with | true => (match Nat.blt t 7 with | true => (match Nat.beq t 6 with | true => some fd6 | false => none) | false => (match Nat.beq t 7 with | true => some fd7 | false => none)) | false => (match Nat.blt t 9 with | true => (match Nat.beq t 8 with | true => some fd8 | false => none) | false => (match Nat.beq t 9 with | true => some fd9 | false => none)))) | false => (match Nat.blt t 14 with | true => (match Nat.blt t 12 with | true => (match Nat.blt t 11 with | true => (match Nat.beq t 10 with | true => some fd10 | false => none) | false => (match Nat.beq t 11 with | true => some fd11 | false => none)) | false => (match Nat.blt t 13 with | true => (match Nat.beq t 12 with | true => some fd12 | false => none) | false => (match Nat.beq t 13 with | true => some fd13 | false => none))) | false => (match Nat.blt t 16 with | true => (match Nat.blt t 15 with | true => (match Nat.beq t 14 with | true => some fd14 | false => none) | false => (match Nat.beq t 15 with | true => some fd15 | false => none)) | false => (match Nat.blt t 17 with | true => (match Nat.beq t 16 with | true => some fd16 | false => none) | false => (match Nat.beq t 17 with | true => some fd17 | false => none))))) | false => (match Nat.blt t 26 with | true => (match Nat.blt t 22 with | true => (match Nat.blt t 20 with | true => (match Nat.blt t 19 with | true => (match Nat.beq t 18 with | true => some fd18 | false => none) | false => (match Nat.beq t 19 with | true => some fd19 | false => none)) | false => (match Nat.blt t 21 with | true => (match Nat.beq t 20 with | true => some fd20 | false => none) | false => (match Nat.beq t 21 with | true => some fd21 | false => none))) | false => (match Nat.blt t 24 with | true => (match Nat.blt t 23 with | true => (match Nat.beq t 22 with | true => some fd22 | false => none) | false => (match Nat.beq t 23 with | true => some fd23 | false => none)) | false => (match Nat.blt t 25 with | true => (match Nat.beq t 24 with | true => some fd24 | false => none) | false => (match Nat.beq t 25 with | true => some fd25 | false => none)))) | false => (match Nat.blt t 30 with | true => (match Nat.blt t 28 with | true => (match Nat.blt t 27 with | true => (match Nat.beq t 26 with | true => some fd26 | false => none) | false => (match Nat.beq t 27 with | true => some fd27 | false => none)) | false => (match Nat.blt t 29 with | true => (match Nat.beq t 28 with | true => some fd28 | false => none) | false => (match Nat.beq t 29 with | true => some fd29 | false => none))) | false => (match Nat.blt t 32 with | true => (match Nat.blt t 31 with | true => (match Nat.beq t 30 with | true => some fd30 | false => none) | false => (match Nat.beq t 31 with | true => some fd31 | false => none)) | false => (match Nat.blt t 33 with | true => (match Nat.beq t 32 with | true => some fd32 | false => none) | false => (match Nat.blt t 34 with | true => (match Nat.beq t 33 with | true => some fd33 | false => none) | false => (match Nat.beq t 34 with | true => some fd34 | false => none)))))))
theorem fns_ok : ∀ f d, fnsT f = some d → ∃ fn, Try.prog.funcs[f]? = some fn ∧ (fn.name == "runtime.NumGoroutine") = false ∧ fn.body = some d.code ∧ fn.ntmps = d.N ∧ fn.results.toList = d.res := by
  intro t y h
  unfold fnsT at h
  repeat' split at h
  all_goals first
    | (cases h; done)
    | (injection h with h; subst h; rename_i hb; obtain rfl := Nat.eq_of_beq_eq_true hb; show FdOk _ _; first | with_reducible exact fd2_ok | with_reducible exact fd3_ok | with_reducible exact fd4_ok | with_reducible exact fd5_ok | with_reducible exact fd6_ok | with_reducible exact fd7_ok | with_reducible exact fd8_ok | with_reducible exact fd9_ok | with_reducible exact fd10_ok | with_reducible exact fd11_ok | with_reducible exact fd12_ok | with_reducible exact fd13_ok | with_reducible exact fd14_ok | with_reducible exact fd15_ok | with_reducible exact fd16_ok | with_reducible exact fd17_ok | with_reducible exact fd18_ok | with_reducible exact fd19_ok | with_reducible exact fd20_ok | with_reducible exact fd21_ok | with_reducible exact fd22_ok | with_reducible exact fd23_ok | with_reducible exact fd24_ok | with_reducible exact fd25_ok | with_reducible exact fd26_ok | with_reducible exact fd27_ok | with_reducible exact fd28_ok | with_reducible exact fd29_ok | with_reducible exact fd30_ok | with_reducible exact fd31_ok | with_reducible exact fd32_ok | with_reducible exact fd33_ok | with_reducible exact fd34_ok)
noncomputable def fns : Fns Try.prog := ⟨fnsT, fns_ok⟩
theorem eqt7_ok (ks : List SK) (h : shp tys 8 7 = some ks) (l1 l2 : List SV) (b : Bool) (he : eqCells ks l1 l2 = some b) : EqOk Try.prog 7 l1 l2 b := eq_ok tys_ok (y := ty7) (by kernel_rfl) (by kernel_rfl) h (by kernel_rfl) (by kernel_rfl) he
theorem eqt8_ok (ks : List SK) (h : shp tys 8 8 = some ks) (l1 l2 : List SV) (b : Bool) (he : eqCells ks l1 l2 = some b) : EqOk Try.prog 8 l1 l2 b := eq_ok tys_ok (y := ty8) (by kernel_rfl) (by kernel_rfl) h (by kernel_rfl) (by kernel_rfl) he
theorem eqt36_ok (ks : List SK) (h : shp tys 8 36 = some ks) (l1 l2 : List SV) (b : Bool) (he : eqCells ks l1 l2 = some b) : EqOk Try.prog 36 l1 l2 b := eq_ok tys_ok (y := ty36) (by kernel_rfl) (by kernel_rfl) h (by kernel_rfl) (by kernel_rfl) he
theorem eqt37_ok (ks : List SK) (h : shp tys 8 37 = some ks) (l1 l2 : List SV) (b : Bool) (he : eqCells ks l1 l2 = some b) : EqOk Try.prog 37 l1 l2 b := eq_ok tys_ok (y := ty37) (by kernel_rfl) (by kernel_rfl) h (by kernel_rfl) (by kernel_rfl) he
theorem eqt39_ok (ks : List SK) (h : shp tys 8 39 = some ks) (l1 l2 : List SV) (b : Bool) (he : eqCells ks l1 l2 = some b) : EqOk Try.prog 39 l1 l2 b := eq_ok tys_ok (y := ty39) (by kernel_rfl) (by kernel_rfl) h (by kernel_rfl) (by kernel_rfl) he
theorem eqt40_ok (ks : List SK) (h : shp tys 8 40 = some ks) (l1 l2 : List SV) (b : Bool) (he : eqCells ks l1 l2 = some b) : EqOk Try.prog 40 l1 l2 b := eq_ok tys_ok (y := ty40) (by kernel_rfl) (by kernel_rfl) h (by kernel_rfl) (by kernel_rfl) he
noncomputable def eqtT : TypeId → Option (List SK) := fun t => (match Nat.blt t 37 with | true => (match Nat.blt t 8 with | true => (match Nat.beq t 7 with | true => shp tys 8 7 | false => none) | false => (match Nat.blt t 36 with | true => (match Nat.beq t 8 with | true => shp tys 8 8 | false => none) | false => (match Nat.beq t 36 with | true => shp tys 8 36 | false => none))) | false => (match Nat.blt t 39 with | true => (match Nat.beq t 37 with | true => shp tys 8 37 | false => none) | false => (match Nat.blt t 40 with | true => (match Nat.beq t 39 with | true => shp tys 8 39 | false => none) | false => (match Nat.beq t 40 with | true => shp tys 8 40 | false => none))))
theorem eqt_ok : ∀ t ks, eqtT t = some ks → ∀ l1 l2 b, eqCells ks l1 l2 = some b → EqOk Try.prog t l1 l2 b := by
  intro t y h
  unfold eqtT at h
  repeat' split at h
  all_goals first
    | (cases h; done)
    | (rename_i hb; obtain rfl := Nat.eq_of_beq_eq_true hb; first | with_reducible exact eqt7_ok _ h | with_reducible exact eqt8_ok _ h | with_reducible exact eqt36_ok _ h | with_reducible exact eqt37_ok _ h | with_reducible exact eqt39_ok _ h | with_reducible exact eqt40_ok _ h)
noncomputable def eqt : EqT Try.prog := ⟨eqtT, eqt_ok⟩
noncomputable def noCt : Ctr Try.prog := ⟨fun _ _ _ => none, fun _ _ _ _ h => by cases h⟩
/-- A run of a function from no rows is its contract. -/
theorem run_fn {fuel depth : Nat} {f : FuncId} {args : List AV} {R : Res} (h : runF eqt tys true fns noCt fuel depth f args [] = some R) : Fn Try.prog f args [] (· = R) := runF_ok mixed tys_ok depth f args [] R (fun _ h => by cases h) h
end Go.Proofs.Ytnmomjaockmdpaa
