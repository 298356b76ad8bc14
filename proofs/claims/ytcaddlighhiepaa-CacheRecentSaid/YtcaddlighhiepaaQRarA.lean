import Derived.Test.YtcaddlighhiepaaQFldJ
namespace Go.Proofs.Ytcaddlighhiepaa
open Go Go.RowKit
set_option linter.unusedSimpArgs false
set_option linter.unusedVariables false
def immB (o : Int) : Bool := decide (16 ≤ o ∧ o ≤ 23)
set_option maxHeartbeats 1000000 in
set_option maxRecDepth 100000 in
theorem rarith_fn (o : Int) : Fn Try.prog 49 [.s (.int .i64 o)] [] (· = ⟨.tup [.s (.bool (aluB o)), .s (.bool (immB o))], [], []⟩) := by
  unfold aluB immB
  refine fn_of_vc mixed tys_ok _ _ Try.func49 (by kernel_rfl) rfl Try.ntmps49 (by rw [Try.results49]) rfl ?_; dsimp only [argTm, argHl, Nat.zero_add, Nat.reduceAdd, List.length_nil, List.length_cons]
  (repeat' ((conv => whnf); first | (with_reducible apply sd_draw; · kernel_rfl) | (apply Sd.mk; · first | exact rfl | trivial | omega | (repeat' apply And.intro) <;> first | exact rfl | exact Nat.le_of_ble_eq_true rfl | omega | decide) | ((with_reducible apply Vl.mk (α := Int)); · (first | (with_reducible exact bits_keep _ _ _ _) | ((rewrite [tdiv_pos]); (focus (first | exact wi64 (by omega) (by omega) | exact wu32 (by omega) (by omega) | exact wi32 (by omega) (by omega))); omega) | exact tmod_pos (by omega) | exact wi64 (by omega) (by omega) | exact wu32 (by omega) (by omega) | exact wu32' _ | exact wu8 (by omega) (by omega) | exact wu64 (by omega) (by omega) | exact wi32 (by omega) (by omega) | rfl)) | ((with_reducible first | apply Vl.mk (α := Bool) | apply Vl.mk (α := Nat) | apply Vl.mk (α := ByteArray) | apply Ge.mk (α := Row) | apply Ge.mk (α := SV) | apply Ge.mk (α := AV)); · exact rfl) | (refine And.intro rfl ?_) | ((with_reducible first | apply Vl.mk (α := List SV) | apply Vl.mk (α := Ef) | apply Vl.mk (α := TV) | apply Ge.mk (α := List SV) | apply Sg.mk | apply Sk.mk); · (first | exact setAll_eq rfl | exact sg_all _ rfl | exact sk_all _ rfl rfl | ((first | apply sg_fc | apply sk_fc | (apply fc_eq; (conv => arg 1; whnf); apply fc_some) | apply fc_eq); (repeat' (first | exact fc_ren (wsv_scal _) | exact fc_ren (by assumption) | ((conv => arg 1; whnf); first | exact fc_nil | apply fc_cons | exact fc_int | exact fc_bool | exact fc_n | exact fc_ns | exact fc_ptr | exact fc_sl | exact fc_str | exact fc_fz | exact fc_unk | exact fc_fn | apply fc_s | apply fc_agg | apply fc_ta | apply fc_tup | exact fc_an | apply fc_ac | exact fc_tu | exact fc_nat | exact fc_bo | exact fc_none | apply fc_some | apply fc_pair | apply fc_row | apply fc_ef))); (all_goals exact rfl)) | ((dsimp only [Res.ef, renT, renA, renS, renN, nwN, upN, renRow, List.map_cons, List.map_nil, List.length_cons, List.length_nil]); first | done | exact rfl) | (dsimp only [setAll, List.set_cons_zero, List.set_cons_succ, List.cons_append, List.nil_append]; exact rfl) | exact rfl)) | ((first | apply Br.mk | apply Gd.mk) <;> (intro hb; first | (exact absurd hb (by decide)) | exact Bool.noConfusion (hb.symm.trans (by assumption) : true = false) | exact Bool.noConfusion (hb.symm.trans (by assumption) : false = true) | (simp only [decide_eq_true_eq, decide_eq_false_iff_not, beq_iff_eq, bne_iff_ne, beq_eq_false_iff_ne, bne_eq_false_iff_eq, Bool.not_eq_true', Bool.not_eq_false', Int.not_lt, Int.not_le, ge_iff_le, gt_iff_lt, ne_eq, Classical.not_not] at hb; first | (exfalso; omega) | skip) | skip)))); (all_goals (try (conv => whnf)))
  all_goals
    refine fin_pure rfl ?_
    simp only [mkRes]
    congr 3
    all_goals first
      | rfl
      | (rw [Bool.eq_iff_iff]; simp only [decide_eq_true_eq, Bool.true_eq, Bool.false_eq_true, true_iff, false_iff, iff_true, iff_false]; omega)
      | ((first | refine congrArg (fun b => AV.s (SV.bool b)) ?_ | refine congrArg SV.bool ?_); first | (exact (decide_eq_false (by omega)).symm) | (exact (decide_eq_true (by omega)).symm) | (rw [Bool.eq_iff_iff, decide_eq_true_eq, decide_eq_true_eq]; omega))
      | trace_state
theorem immV_rng (o : Int) (h : immV o ≠ 0) : 16 ≤ immV o ∧ immV o ≤ 23 := by
  unfold immV at h ⊢
  repeat' split
  all_goals first | omega | skip
  all_goals (exfalso; apply h; repeat' (first | (rw [if_neg (by assumption)]) | rfl))
end Go.Proofs.Ytcaddlighhiepaa
