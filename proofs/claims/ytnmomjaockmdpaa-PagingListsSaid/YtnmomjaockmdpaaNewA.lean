/- Memory made anew; small helpers on lists of words. -/
import Derived.Test.YtnmomjaockmdpaaCpyA
import Derived.Test.YtnmomjaockmdpaaMkA
import Derived.Test.YtnmomjaockmdpaaSt4A
namespace Go.Proofs.Ytnmomjaockmdpaa
open Go Go.RowKit
set_option linter.unusedSimpArgs false
set_option linter.unusedVariables false

def zer : Nat → List Nat
  | 0 => []
  | n + 1 => 0 :: zer n
theorem zer_len : ∀ n, (zer n).length = n
  | 0 => rfl
  | n + 1 => by show (zer n).length + 1 = _; rw [zer_len n]
theorem zer_get : ∀ (n j : Nat), (zer n).getD j 0 = 0
  | 0, j => rfl
  | n + 1, 0 => rfl
  | n + 1, j + 1 => by show (zer n).getD j 0 = 0; exact zer_get n j
theorem wsv_set5 (y : List Nat) (a w : Nat) (ha : a < y.length) : setAll (wsv y) (0 + ((a : Nat) : Int).toNat * ty24.size) [.int .u32 (w : Nat)] = wsv (y.set a w) := by
  have e : 0 + ((a : Nat) : Int).toNat * ty24.size = a := by show 0 + ((a : Nat) : Int).toNat * 1 = a; omega
  rw [e]
  apply List.ext_getElem?
  intro i
  rw [setAll_get _ _ _ _ (by simp; omega)]
  unfold wsv
  simp only [List.length_cons, List.length_nil, Nat.zero_add]
  by_cases h : i = a
  · subst h
    rw [if_pos (by omega), List.getElem?_map, List.getElem?_set_self (by omega)]
    simp
  · rw [if_neg (by omega), List.getElem?_map, List.getElem?_map, List.getElem?_set_ne (by omega)]
theorem wsv_len (xs : List Nat) : (wsv xs).length = xs.length := by unfold wsv; rw [List.length_map]
theorem mem_set {xs : List Nat} {a w y : Nat} (h : y ∈ xs.set a w) : y ∈ xs ∨ y = w := by
  exact List.mem_or_eq_of_mem_set h
theorem getD_set (xs : List Nat) (a w j : Nat) (ha : a < xs.length) : (xs.set a w).getD j 0 = if j = a then w else xs.getD j 0 := by
  rw [List.getD_eq_getElem?_getD, List.getD_eq_getElem?_getD, List.getElem?_set]
  by_cases h : a = j
  · rw [if_pos h, if_pos ha, if_pos h.symm]; rfl
  · rw [if_neg h, if_neg (fun e => h e.symm)]
def XB (xs : List Nat) (n : Nat) : Prop := xs.length = n ∧ ∀ y ∈ xs, y < 4294967296
theorem XB_set {xs : List Nat} {n i w : Nat} (h : XB xs n) (hw : w < 4294967296) : XB (xs.set i w) n :=
  ⟨by rw [List.length_set]; exact h.1, fun y hy => by rcases mem_set hy with h1 | h1; exact h.2 y h1; omega⟩
theorem zer_rep : ∀ n, wsv (zer n) = List.replicate n (SV.int .u32 0)
  | 0 => rfl
  | n + 1 => by
    rw [List.replicate_succ, ← zer_rep n]; rfl
set_option maxRecDepth 100000 in
theorem newk_fn (k : Nat) (h1 : 1 ≤ k) (h2 : k ≤ 16) : Fn Try.prog 22 [.s (.int .i64 k)] [] (· = ⟨.a (.s (.sl 0 0 (k * 32))), [], [⟨true, 1, wsv (zer (k * 32))⟩]⟩) := by
  rw [zer_rep]
  have hz := zs_okW (k * 32)
  have hs : allScal (List.replicate (k * 32) (SV.int .u32 0)) = true := by rw [← zer_rep]; exact wsv_scal _
  have e1 : IntKind.i64.wrap ((k : Int) * 32) = ((k * 32 : Nat) : Int) := by rw [wi64 (by omega) (by omega)]; omega
  generalize List.replicate (k * 32) (SV.int .u32 0) = Z at *
  refine fn_of_vc mixed tys_ok _ _ Try.func22 (by kernel_rfl) rfl Try.ntmps22 (by rw [Try.results22]) rfl ?_; dsimp only [argTm, argHl, Nat.zero_add, Nat.reduceAdd, List.length_nil, List.length_cons]
  (repeat' ((conv => whnf); first | ((with_reducible apply Vl.mk (α := Int)); · with_reducible exact e1)  |  (refine Zs.mk Z hz ?_) | ((with_reducible apply Vl.mk (α := Nat)); · ((try simp only [tysz, tybz, Int.toNat_natCast, Int.toNat_zero, Int.toNat_one, Nat.zero_add, Nat.zero_mul, Nat.mul_one, Nat.one_mul, Nat.add_zero, Int.sub_zero, Option.getD_some, Option.getD_none, Int.toNat_natCast_add_one]); exact rfl)) | (with_reducible apply sd_draw; · kernel_rfl) | (apply Sd.mk; · first | exact rfl | trivial | omega | (repeat' apply And.intro) <;> first | exact rfl | exact Nat.le_of_ble_eq_true rfl | omega | decide) | ((with_reducible apply Vl.mk (α := Int)); · (first | (with_reducible exact bits_keep _ _ _ _) | ((rewrite [tdiv_pos]); (focus (first | exact wi64 (by omega) (by omega) | exact wu32 (by omega) (by omega) | exact wi32 (by omega) (by omega))); omega) | exact tmod_pos (by omega) | exact wi64 (by omega) (by omega) | exact wu32 (by omega) (by omega) | exact wu32' _ | exact wu8 (by omega) (by omega) | exact wu64 (by omega) (by omega) | exact wi32 (by omega) (by omega) | rfl)) | ((with_reducible first | apply Vl.mk (α := Bool) | apply Vl.mk (α := Nat) | apply Vl.mk (α := ByteArray) | apply Ge.mk (α := Row) | apply Ge.mk (α := SV) | apply Ge.mk (α := AV)); · exact rfl) | (refine And.intro rfl ?_) | ((with_reducible first | apply Vl.mk (α := List SV) | apply Vl.mk (α := Ef) | apply Vl.mk (α := TV) | apply Ge.mk (α := List SV) | apply Sg.mk | apply Sk.mk); · (first | exact setAll_eq rfl | exact sg_all _ rfl | exact sk_all _ rfl rfl | ((first | apply sg_fc | apply sk_fc | (apply fc_eq; (conv => arg 1; whnf); apply fc_some) | apply fc_eq); (repeat' (first | exact fc_ren (wsv_scal _) | exact fc_ren (by assumption) | ((conv => arg 1; whnf); first | exact fc_nil | apply fc_cons | exact fc_int | exact fc_bool | exact fc_n | exact fc_ns | exact fc_ptr | exact fc_sl | exact fc_str | exact fc_unk | exact fc_fn | apply fc_s | apply fc_agg | apply fc_ta | apply fc_tup | exact fc_an | apply fc_ac | exact fc_tu | exact fc_nat | exact fc_bo | exact fc_none | apply fc_some | apply fc_pair | apply fc_row | apply fc_ef))); (all_goals exact rfl)) | ((dsimp only [Res.ef, renT, renA, renS, renN, nwN, upN, renRow, List.map_cons, List.map_nil, List.length_cons, List.length_nil]); first | done | exact rfl) | (dsimp only [setAll, List.set_cons_zero, List.set_cons_succ, List.cons_append, List.nil_append]; exact rfl) | exact rfl)) | ((first | apply Br.mk | apply Gd.mk) <;> (intro hb; first | (exact absurd hb (by decide)) | exact Bool.noConfusion (hb.symm.trans (by assumption) : true = false) | exact Bool.noConfusion (hb.symm.trans (by assumption) : false = true) | (simp only [decide_eq_true_eq, decide_eq_false_iff_not, beq_iff_eq, bne_iff_ne, beq_eq_false_iff_ne, bne_eq_false_iff_eq, Bool.not_eq_true', Bool.not_eq_false', Int.not_lt, Int.not_le, ge_iff_le, gt_iff_lt, ne_eq, Classical.not_not] at hb; first | (exfalso; omega) | skip) | skip)) | (apply Sd.mk; · (repeat' apply And.intro) <;> (try simp only [tysz, tybz, Int.toNat_natCast, Int.toNat_zero, Int.toNat_one, Nat.zero_add, Nat.zero_mul, Nat.mul_one, Nat.one_mul, Nat.add_zero, Int.sub_zero, Option.getD_some, Option.getD_none, Int.toNat_natCast_add_one]) <;> first | exact rfl | omega))); (all_goals (try (conv => whnf)))
  all_goals first | (apply Fin.mk (m := [(0, some _)]); (focus exact rfl); (all_goals ((try (show HlS _ _ [] _)); first | ((repeat' (first | exact SVsM.nil | exact avsm_nil | exact svm_same rfl | exact svm_ptr rfl | exact svm_sl rfl | exact svm_slnil rfl | exact svsm_scal rfl | exact svsm_scal (wsv_scal _) | exact svsm_scal (by assumption) | exact hls_nil | apply SVsM.cons | apply tvm_a | apply tvm_tup | apply avm_agg | apply avm_s | apply avsm_cons | exact trivial | (refine hls_skip rfl ?_) | apply hls_none | apply hls_row | (refine rowmt_mk rfl rfl rfl rfl ?_) | exact rowmt_nil rfl rfl)); done) | exact rfl))) | trace_state
theorem or_ex (a b : Int) : ∃ W : Nat, W < 4294967296 ∧ bits .or .u32 a b = (W : Int) := by
  have h : 0 ≤ bits .or .u32 a b ∧ bits .or .u32 a b < 4294967296 := by
    unfold bits
    show 0 ≤ IntKind.u32.wrap _ ∧ IntKind.u32.wrap _ < 4294967296
    rw [IntKind.wrap_u32]; omega
  generalize bits .or .u32 a b = z at *
  exact ⟨z.toNat, by omega, by omega⟩
theorem mixN (n k : Int) : ∃ V : Nat, mix n k = (V : Int) ∧ V ≤ 9223372036854775807 := by
  have h := mix_range n k
  generalize mix n k = z at *
  exact ⟨z.toNat, by omega, by omega⟩
theorem zer_lt : ∀ n, ∀ y ∈ zer n, y < 4294967296
  | 0, y, h => by cases h
  | n + 1, y, h => by
    rcases List.mem_cons.1 h with h | h
    · omega
    · exact zer_lt n y h
end Go.Proofs.Ytnmomjaockmdpaa
