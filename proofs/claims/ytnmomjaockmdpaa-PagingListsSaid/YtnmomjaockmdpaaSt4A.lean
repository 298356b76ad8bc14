/- Stores of words. -/
import Derived.Test.YtnmomjaockmdpaaClnB
namespace Go.Proofs.Ytnmomjaockmdpaa
open Go Go.RowKit
set_option linter.unusedSimpArgs false
set_option linter.unusedVariables false

theorem wsv_set' (xs : List Nat) (j w : Nat) (hj : j < xs.length) : setAll (wsv xs) j [.int .u32 w] = wsv (xs.set j w) := by
  apply List.ext_getElem?
  intro i
  rw [setAll_get _ _ _ _ (by simp; omega)]
  unfold wsv
  simp only [List.getElem?_map, List.length_cons, List.length_nil, Nat.zero_add, List.getElem?_set]
  by_cases hi : i = j
  · subst hi
    rw [if_pos (by omega), if_pos rfl, if_pos hj]
    simp
  · rw [if_neg (by omega), if_neg (by omega)]
set_option maxRecDepth 100000 in
theorem store4_ok (xs : List Nat) (n a v : Nat) (hl : xs.length = n) (hn : n < 4294967296) (ha : a < 4294967296) (hld : ld4 n a = true) : Fn Try.prog 18 [.s (.sl 0 0 n), .s (.int .u32 a), .s (.int .i64 4), .s (.int .u32 v)] [⟨false, 1, wsv xs⟩] (· = ⟨.tup [.s (.sl 1 0 n), .s (.bool true)], [], [⟨true, 1, wsv (xs.set (a / 4) v)⟩]⟩) := by
  have hw := within4_fn xs n a hn ha
  rw [hld] at hw
  have hln := mpg_len hld
  have hcl := clone_fn xs n hl (by omega)
  have hset := wsv_set' xs (a / 4) v (by omega)
  have hlw : (wsv xs).length = n := by simp [hl]
  have hsc : allScal (wsv xs) = true := wsv_scal xs
  have hsc2 : allScal (wsv (xs.set (a / 4) v)) = true := wsv_scal _
  generalize wsv (xs.set (a / 4) v) = X2 at *
  generalize wsv xs = X at *
  refine fn_of_vc mixed tys_ok _ _ Try.func18 (by kernel_rfl) rfl Try.ntmps18 (by rw [Try.results18]) rfl ?_; dsimp only [argTm, argHl, Nat.zero_add, Nat.reduceAdd, List.length_nil, List.length_cons]
  (repeat' ((conv => whnf); first | (refine vcall_det (f := 29) hw [⟨0, 0⟩] [(0, ⟨false, 1, X⟩)] rfl ⟨rfl, trivial⟩ ⟨rfl, rowM_ro hsc, trivial⟩ ⟨rfl, noUp⟩ ?_)  |  (refine vcall_det (f := 17) hcl [⟨0, 0⟩] [(0, ⟨false, 1, X⟩)] rfl ⟨rfl, trivial⟩ ⟨rfl, rowM_ro hsc, trivial⟩ ⟨rfl, noUp⟩ ?_)  |  (apply Sd.mk; · omega)  |  (apply Sd.mk; · refine ⟨rfl, rfl, rfl, ?_⟩; show _ ≤ X.length; simp; omega)  |  ((with_reducible apply Vl.mk (α := Nat)); · exact ldi a)  |  ((with_reducible apply Vl.mk (α := List SV)); · with_reducible exact hset) | (with_reducible apply sd_draw; · kernel_rfl) | (apply Sd.mk; · first | exact rfl | trivial | omega | (repeat' apply And.intro) <;> first | exact rfl | exact Nat.le_of_ble_eq_true rfl | omega | decide) | ((with_reducible apply Vl.mk (α := Int)); · (first | (with_reducible exact bits_keep _ _ _ _) | ((rewrite [tdiv_pos]); (focus (first | exact wi64 (by omega) (by omega) | exact wu32 (by omega) (by omega) | exact wi32 (by omega) (by omega))); omega) | exact tmod_pos (by omega) | exact wi64 (by omega) (by omega) | exact wu32 (by omega) (by omega) | exact wu32' _ | exact wu8 (by omega) (by omega) | exact wu64 (by omega) (by omega) | exact wi32 (by omega) (by omega) | rfl)) | ((with_reducible first | apply Vl.mk (α := Bool) | apply Vl.mk (α := Nat) | apply Vl.mk (α := ByteArray) | apply Ge.mk (α := Row) | apply Ge.mk (α := SV) | apply Ge.mk (α := AV)); · exact rfl) | (refine And.intro rfl ?_) | ((with_reducible first | apply Vl.mk (α := List SV) | apply Vl.mk (α := Ef) | apply Vl.mk (α := TV) | apply Ge.mk (α := List SV) | apply Sg.mk | apply Sk.mk); · (first | exact setAll_eq rfl | exact sg_all _ rfl | exact sk_all _ rfl rfl | ((first | apply sg_fc | apply sk_fc | (apply fc_eq; (conv => arg 1; whnf); apply fc_some) | apply fc_eq); (repeat' (first | exact fc_ren (wsv_scal _) | exact fc_ren (by assumption) | ((conv => arg 1; whnf); first | exact fc_nil | apply fc_cons | exact fc_int | exact fc_bool | exact fc_n | exact fc_ns | exact fc_ptr | exact fc_sl | exact fc_str | exact fc_unk | exact fc_fn | apply fc_s | apply fc_agg | apply fc_ta | apply fc_tup | exact fc_an | apply fc_ac | exact fc_tu | exact fc_nat | exact fc_bo | exact fc_none | apply fc_some | apply fc_pair | apply fc_row | apply fc_ef))); (all_goals exact rfl)) | ((dsimp only [Res.ef, renT, renA, renS, renN, nwN, upN, renRow, List.map_cons, List.map_nil, List.length_cons, List.length_nil]); first | done | exact rfl) | (dsimp only [setAll, List.set_cons_zero, List.set_cons_succ, List.cons_append, List.nil_append]; exact rfl) | exact rfl)) | ((first | apply Br.mk | apply Gd.mk) <;> (intro hb; first | (exact absurd hb (by decide)) | exact Bool.noConfusion (hb.symm.trans (by assumption) : true = false) | exact Bool.noConfusion (hb.symm.trans (by assumption) : false = true) | (simp only [decide_eq_true_eq, decide_eq_false_iff_not, beq_iff_eq, bne_iff_ne, beq_eq_false_iff_ne, bne_eq_false_iff_eq, Bool.not_eq_true', Bool.not_eq_false', Int.not_lt, Int.not_le, ge_iff_le, gt_iff_lt, ne_eq, Classical.not_not] at hb; first | (exfalso; omega) | skip) | skip)))); (all_goals (try (conv => whnf)))
  all_goals (apply Fin.mk (m := [(0, some 0), (1, some _)]); (focus exact rfl); (all_goals ((try (show HlS _ _ [] _)); first | ((repeat' (first | exact SVsM.nil | exact avsm_nil | exact svm_same rfl | exact svm_ptr rfl | exact svm_sl rfl | exact svm_slnil rfl | exact svsm_scal rfl | exact svsm_scal (wsv_scal _) | exact svsm_scal (by assumption) | exact hls_nil | apply SVsM.cons | apply tvm_a | apply tvm_tup | apply avm_agg | apply avm_s | apply avsm_cons | exact trivial | (refine hls_skip rfl ?_) | apply hls_none | apply hls_row | (refine rowmt_mk rfl rfl rfl rfl ?_) | exact rowmt_nil rfl rfl)); done) | exact rfl)))
end Go.Proofs.Ytnmomjaockmdpaa
