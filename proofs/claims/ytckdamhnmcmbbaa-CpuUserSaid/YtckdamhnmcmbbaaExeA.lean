/- Branches: taken; what execute does at a branch, a jump, a jump by register; Exec of what leaves the memory alone, in kernel mode. -/
import Derived.Test.YtckdamhnmcmbbaaFetC
namespace Go.Proofs.Ytckdamhnmcmbbaa
open Go Go.RowKit
set_option linter.unusedSimpArgs false
set_option linter.unusedVariables false

def takV (o : Int) (a b : Nat) : Bool :=
  if o = 40 then decide (a = b) else if o = 41 then decide (a ≠ b) else if o = 42 then decide (sgn a < sgn b) else if o = 43 then decide (sgn b ≤ sgn a) else if o = 44 then decide (a < b) else decide (b ≤ a)
set_option maxRecDepth 100000 in
theorem taken_fn (o : Int) (a b : Nat) (ha : a < 4294967296) (hb0 : b < 4294967296) : Fn Try.prog 68 [.s (.int .i64 o), .s (.int .u32 a), .s (.int .u32 b)] [] (· = ⟨.a (.s (.bool (takV o a b))), [], []⟩) := by
  refine fn_of_vc mixed tys_ok _ _ Try.func68 (by kernel_rfl) rfl Try.ntmps68 (by rw [Try.results68]) rfl ?_; dsimp only [argTm, argHl, Nat.zero_add, Nat.reduceAdd, List.length_nil, List.length_cons]
  (repeat' ((conv => whnf); first | ((with_reducible apply Vl.mk (α := Int)); · with_reducible first | exact sgn_wrap _ ha | exact sgn_wrap _ hb0) | (with_reducible apply sd_draw; · kernel_rfl) | (apply Sd.mk; · first | exact rfl | trivial | omega | (repeat' apply And.intro) <;> first | exact rfl | exact Nat.le_of_ble_eq_true rfl | omega | decide) | ((with_reducible apply Vl.mk (α := Int)); · (first | (with_reducible exact bits_keep _ _ _ _) | ((rewrite [tdiv_pos]); (focus (first | exact wi64 (by omega) (by omega) | exact wu32 (by omega) (by omega) | exact wi32 (by omega) (by omega))); omega) | exact tmod_pos (by omega) | exact wi64 (by omega) (by omega) | exact wu32 (by omega) (by omega) | exact wu32' _ | exact wu8 (by omega) (by omega) | exact wu64 (by omega) (by omega) | exact wi32 (by omega) (by omega) | rfl)) | ((with_reducible first | apply Vl.mk (α := Bool) | apply Vl.mk (α := Nat) | apply Vl.mk (α := ByteArray) | apply Ge.mk (α := Row) | apply Ge.mk (α := SV) | apply Ge.mk (α := AV)); · exact rfl) | (refine And.intro rfl ?_) | ((with_reducible first | apply Vl.mk (α := List SV) | apply Vl.mk (α := Ef) | apply Vl.mk (α := TV) | apply Ge.mk (α := List SV) | apply Sg.mk | apply Sk.mk); · (first | exact setAll_eq rfl | exact sg_all _ rfl | exact sk_all _ rfl rfl | ((first | apply sg_fc | apply sk_fc | (apply fc_eq; (conv => arg 1; whnf); apply fc_some) | apply fc_eq); (repeat' (first | exact fc_ren (wsv_scal _) | exact fc_ren (by assumption) | ((conv => arg 1; whnf); first | exact fc_nil | apply fc_cons | exact fc_int | exact fc_bool | exact fc_n | exact fc_ns | exact fc_ptr | exact fc_sl | exact fc_str | exact fc_unk | exact fc_fn | apply fc_s | apply fc_agg | apply fc_ta | apply fc_tup | exact fc_an | apply fc_ac | exact fc_tu | exact fc_nat | exact fc_bo | exact fc_none | apply fc_some | apply fc_pair | apply fc_row | apply fc_ef))); (all_goals exact rfl)) | ((dsimp only [Res.ef, renT, renA, renS, renN, nwN, upN, renRow, List.map_cons, List.map_nil, List.length_cons, List.length_nil]); first | done | exact rfl) | (dsimp only [setAll, List.set_cons_zero, List.set_cons_succ, List.cons_append, List.nil_append]; exact rfl) | exact rfl)) | ((first | apply Br.mk | apply Gd.mk) <;> (intro hb; first | (exact absurd hb (by decide)) | exact Bool.noConfusion (hb.symm.trans (by assumption) : true = false) | exact Bool.noConfusion (hb.symm.trans (by assumption) : false = true) | (simp only [decide_eq_true_eq, decide_eq_false_iff_not, beq_iff_eq, bne_iff_ne, beq_eq_false_iff_ne, bne_eq_false_iff_eq, Bool.not_eq_true', Bool.not_eq_false', Int.not_lt, Int.not_le, ge_iff_le, gt_iff_lt, ne_eq, Classical.not_not] at hb; first | (exfalso; omega) | skip) | skip)))); (all_goals (try (conv => whnf)))
  all_goals
    apply fin_pure
    (focus rfl)
    simp only [mkRes]
    congr 3
    first
      | (subst hb; simp [takV]; done)
      | (subst hb; simp [takV]; omega)
      | (unfold takV; rw [if_neg (by omega), if_neg (by omega), if_neg (by omega), if_neg (by omega), if_neg (by omega)]; simp; done)
      | (subst hb; rw [Bool.eq_iff_iff]; simp [takV]; done)
      | (subst hb; rw [Bool.eq_iff_iff]; simp [takV]; omega)
theorem brn_o : ∀ o : Int, o = 40 ∨ o = 41 ∨ o = 42 ∨ o = 43 ∨ o = 44 ∨ o = 45 → 40 ≤ o ∧ o ≤ 45 := by omega
set_option maxHeartbeats 4000000 in
set_option maxRecDepth 100000 in
theorem execute_br (o : Int) (x0 x1 x2 x3 x4 x5 x6 x7 x8 x9 x10 x11 x12 x13 x14 x15 pc T m' : Nat) (m : Int) (c : List Nat) (hc : c.length = 8) (ho : 40 ≤ o ∧ o ≤ 45) (h1 : x1 < 4294967296) (h2 : x2 < 4294967296) (hpc : pc < 4294967292)
    (hm : IntKind.u32.wrap m = (m' : Int)) (hT : IntKind.u32.wrap ((pc : Int) + IntKind.u32.wrap (4 * (m' : Int))) = (T : Int)) :
    Fn Try.prog 52 [.agg (cpuC [x0, x1, x2, x3, x4, x5, x6, x7, x8, x9, x10, x11, x12, x13, x14, x15] pc c), .agg (iv o 1 2 0 m)] [] (· = ⟨.tup [.agg (cpuC [x0, x1, x2, x3, x4, x5, x6, x7, x8, x9, x10, x11, x12, x13, x14, x15] (if takV o x1 x2 then T else pc + 4) c), .agg [.int .i64 0, .int .i64 0, .int .i64 0, .int .u32 0]], [], []⟩) := by
  have ht := taken_fn o x1 x2 h1 h2
  obtain ⟨c0, c1, c2, c3, c4, c5, c6, c7, rfl⟩ := len8 hc
  have h4 : IntKind.u32.wrap ((pc : Int) + 4) = ((pc + 4 : Nat) : Int) := by rw [wu32 (by omega) (by omega)]; omega
  have hk : IntKind.u32.wrap (4 * (m' : Int)) = IntKind.u32.wrap (4 * (m' : Int)) := rfl
  generalize hq : IntKind.u32.wrap (4 * (m' : Int)) = q at *
  generalize takV o x1 x2 = tk at *
  cases tk
  all_goals
    have e : o = 40 ∨ o = 41 ∨ o = 42 ∨ o = 43 ∨ o = 44 ∨ o = 45 := by omega
    rcases e with rfl | rfl | rfl | rfl | rfl | rfl
    all_goals
      refine fn_of_vc mixed tys_ok _ _ Try.func52 (by kernel_rfl) rfl Try.ntmps52 (by rw [Try.results52]) rfl ?_; dsimp only [argTm, argHl, Nat.zero_add, Nat.reduceAdd, List.length_nil, List.length_cons]
      (repeat' ((conv => whnf); first | (refine vcall_pure (f := 68) (ht) rfl ?_)  |  ((with_reducible apply Vl.mk (α := Int)); · with_reducible first | exact hm | exact h4 | exact hq | exact hT) | (with_reducible apply sd_draw; · kernel_rfl) | (apply Sd.mk; · first | exact rfl | trivial | omega | (repeat' apply And.intro) <;> first | exact rfl | exact Nat.le_of_ble_eq_true rfl | omega | decide) | ((with_reducible apply Vl.mk (α := Int)); · (first | (with_reducible exact bits_keep _ _ _ _) | ((rewrite [tdiv_pos]); (focus (first | exact wi64 (by omega) (by omega) | exact wu32 (by omega) (by omega) | exact wi32 (by omega) (by omega))); omega) | exact tmod_pos (by omega) | exact wi64 (by omega) (by omega) | exact wu32 (by omega) (by omega) | exact wu32' _ | exact wu8 (by omega) (by omega) | exact wu64 (by omega) (by omega) | exact wi32 (by omega) (by omega) | rfl)) | ((with_reducible first | apply Vl.mk (α := Bool) | apply Vl.mk (α := Nat) | apply Vl.mk (α := ByteArray) | apply Ge.mk (α := Row) | apply Ge.mk (α := SV) | apply Ge.mk (α := AV)); · exact rfl) | (refine And.intro rfl ?_) | ((with_reducible first | apply Vl.mk (α := List SV) | apply Vl.mk (α := Ef) | apply Vl.mk (α := TV) | apply Ge.mk (α := List SV) | apply Sg.mk | apply Sk.mk); · (first | exact setAll_eq rfl | exact sg_all _ rfl | exact sk_all _ rfl rfl | ((first | apply sg_fc | apply sk_fc | (apply fc_eq; (conv => arg 1; whnf); apply fc_some) | apply fc_eq); (repeat' (first | exact fc_ren (wsv_scal _) | exact fc_ren (by assumption) | ((conv => arg 1; whnf); first | exact fc_nil | apply fc_cons | exact fc_int | exact fc_bool | exact fc_n | exact fc_ns | exact fc_ptr | exact fc_sl | exact fc_str | exact fc_unk | exact fc_fn | apply fc_s | apply fc_agg | apply fc_ta | apply fc_tup | exact fc_an | apply fc_ac | exact fc_tu | exact fc_nat | exact fc_bo | exact fc_none | apply fc_some | apply fc_pair | apply fc_row | apply fc_ef))); (all_goals exact rfl)) | ((dsimp only [Res.ef, renT, renA, renS, renN, nwN, upN, renRow, List.map_cons, List.map_nil, List.length_cons, List.length_nil]); first | done | exact rfl) | (dsimp only [setAll, List.set_cons_zero, List.set_cons_succ, List.cons_append, List.nil_append]; exact rfl) | exact rfl)) | ((first | apply Br.mk | apply Gd.mk) <;> (intro hb; first | (exact absurd hb (by decide)) | exact Bool.noConfusion (hb.symm.trans (by assumption) : true = false) | exact Bool.noConfusion (hb.symm.trans (by assumption) : false = true) | (simp only [decide_eq_true_eq, decide_eq_false_iff_not, beq_iff_eq, bne_iff_ne, beq_eq_false_iff_ne, bne_eq_false_iff_eq, Bool.not_eq_true', Bool.not_eq_false', Int.not_lt, Int.not_le, ge_iff_le, gt_iff_lt, ne_eq, Classical.not_not] at hb; first | (exfalso; omega) | skip) | skip)))); (all_goals (try (conv => whnf)))
      all_goals exact fin_pure rfl rfl
end Go.Proofs.Ytckdamhnmcmbbaa
