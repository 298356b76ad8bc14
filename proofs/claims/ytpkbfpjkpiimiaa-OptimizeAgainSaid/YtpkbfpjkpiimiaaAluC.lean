/- Alu of the reference. -/
import Derived.Test.YtpkbfpjkpiimiaaAluB
import Derived.Test.YtpkbfpjkpiimiaaMkA
namespace Go.Proofs.Ytpkbfpjkpiimiaa
open Go Go.RowKit
set_option linter.unusedSimpArgs false
set_option linter.unusedVariables false

def plainV (op : Int) : Int := if op = 16 then 1 else if op = 17 then 3 else if op = 18 then 4 else if op = 19 then 5 else if op = 20 then 6 else if op = 21 then 7 else if op = 22 then 8 else if op = 23 then 12 else op
set_option maxRecDepth 100000 in
theorem plain_fn (op : Int) : Fn Try.prog 41 [.s (.int .i64 op)] [] (· = ⟨.a (.s (.int .i64 (plainV op))), [], []⟩) := by
  refine fn_of_vc mixed tys_ok _ _ Try.func41 (by kernel_rfl) rfl Try.ntmps41 (by rw [Try.results41]) rfl ?_; dsimp only [argTm, argHl, Nat.zero_add, Nat.reduceAdd, List.length_nil, List.length_cons]
  (repeat' ((conv => whnf); first | (with_reducible apply sd_draw; · kernel_rfl) | (apply Sd.mk; · first | exact rfl | trivial | omega | (repeat' apply And.intro) <;> first | exact rfl | exact Nat.le_of_ble_eq_true rfl | omega | decide) | ((with_reducible apply Vl.mk (α := Int)); · (first | (with_reducible exact bits_keep _ _ _ _) | ((rewrite [tdiv_pos]); (focus (first | exact wi64 (by omega) (by omega) | exact wu32 (by omega) (by omega) | exact wi32 (by omega) (by omega))); omega) | exact tmod_pos (by omega) | exact wi64 (by omega) (by omega) | exact wu32 (by omega) (by omega) | exact wu32' _ | exact wu8 (by omega) (by omega) | exact wu64 (by omega) (by omega) | exact wi32 (by omega) (by omega) | rfl)) | ((with_reducible first | apply Vl.mk (α := Bool) | apply Vl.mk (α := Nat) | apply Vl.mk (α := ByteArray) | apply Ge.mk (α := Row) | apply Ge.mk (α := SV) | apply Ge.mk (α := AV)); · exact rfl) | (refine And.intro rfl ?_) | ((with_reducible first | apply Vl.mk (α := List SV) | apply Vl.mk (α := Ef) | apply Vl.mk (α := TV) | apply Ge.mk (α := List SV) | apply Sg.mk | apply Sk.mk); · (first | exact setAll_eq rfl | exact sg_all _ rfl | exact sk_all _ rfl rfl | ((first | apply sg_fc | apply sk_fc | (apply fc_eq; (conv => arg 1; whnf); apply fc_some) | apply fc_eq); (repeat' (first | exact fc_ren (wsv_scal _) | exact fc_ren (by assumption) | ((conv => arg 1; whnf); first | exact fc_nil | apply fc_cons | exact fc_int | exact fc_bool | exact fc_n | exact fc_ns | exact fc_ptr | exact fc_sl | exact fc_str | exact fc_unk | exact fc_fn | apply fc_s | apply fc_agg | apply fc_ta | apply fc_tup | exact fc_an | apply fc_ac | exact fc_tu | exact fc_nat | exact fc_bo | exact fc_none | apply fc_some | apply fc_pair | apply fc_row | apply fc_ef))); (all_goals exact rfl)) | ((dsimp only [Res.ef, renT, renA, renS, renN, nwN, upN, renRow, List.map_cons, List.map_nil, List.length_cons, List.length_nil]); first | done | exact rfl) | (dsimp only [setAll, List.set_cons_zero, List.set_cons_succ, List.cons_append, List.nil_append]; exact rfl) | exact rfl)) | ((first | apply Br.mk | apply Gd.mk) <;> (intro hb; first | (exact absurd hb (by decide)) | exact Bool.noConfusion (hb.symm.trans (by assumption) : true = false) | exact Bool.noConfusion (hb.symm.trans (by assumption) : false = true) | (simp only [decide_eq_true_eq, decide_eq_false_iff_not, beq_iff_eq, bne_iff_ne, beq_eq_false_iff_ne, bne_eq_false_iff_eq, Bool.not_eq_true', Bool.not_eq_false', Int.not_lt, Int.not_le, ge_iff_le, gt_iff_lt, ne_eq, Classical.not_not] at hb; first | (exfalso; omega) | skip) | skip)))); (all_goals (try (conv => whnf)))
  all_goals
    apply fin_pure
    (focus rfl)
    first
      | (subst hb; rfl)
      | (simp only [mkRes]; have e : plainV op = op := by (unfold plainV; repeat rw [if_neg (by omega)])
         rw [e])
theorem plain_at (op : Int) (h : op < 16 ∨ 23 < op) : Fn Try.prog 41 [.s (.int .i64 op)] [] (· = ⟨.a (.s (.int .i64 op)), [], []⟩) := by
  have := plain_fn op
  have e : plainV op = op := by
    unfold plainV; repeat rw [if_neg (by omega)]
  rw [e] at this; exact this
set_option maxHeartbeats 4000000 in
set_option maxRecDepth 100000 in
theorem ralu_fn (op : Int) (a b : Nat) (ha : a < 4294967296) (hb0 : b < 4294967296) : Fn Try.prog 22 [.s (.int .i64 op), .s (.int .u32 a), .s (.int .u32 b)] [] (· = ⟨.tup [.s (.int .u32 (aluV op a b)), .s (.bool (aluB op))], [], []⟩) := by
  have hc : (op = 16 ∨ op = 17 ∨ op = 18 ∨ op = 19 ∨ op = 20 ∨ op = 21 ∨ op = 22 ∨ op = 23) ∨ (op < 16 ∨ 23 < op) := by omega
  rcases hc with (rfl | rfl | rfl | rfl | rfl | rfl | rfl | rfl) | hc
  all_goals refine fn_of_vc mixed tys_ok _ _ Try.func22 (by kernel_rfl) rfl Try.ntmps22 (by rw [Try.results22]) rfl ?_; dsimp only [argTm, argHl, Nat.zero_add, Nat.reduceAdd, List.length_nil, List.length_cons]
  all_goals (repeat' ((conv => whnf); first | (refine vcall_pure (f := 41) (plain_at _ hc) rfl ?_)  |  (refine vcall_pure (f := 41) ((plain_fn _ : Fn _ _ [.s (.int .i64 16)] [] (· = ⟨.a (.s (.int .i64 1)), [], []⟩))) rfl ?_)  |  (refine vcall_pure (f := 41) ((plain_fn _ : Fn _ _ [.s (.int .i64 17)] [] (· = ⟨.a (.s (.int .i64 3)), [], []⟩))) rfl ?_)  |  (refine vcall_pure (f := 41) ((plain_fn _ : Fn _ _ [.s (.int .i64 18)] [] (· = ⟨.a (.s (.int .i64 4)), [], []⟩))) rfl ?_)  |  (refine vcall_pure (f := 41) ((plain_fn _ : Fn _ _ [.s (.int .i64 19)] [] (· = ⟨.a (.s (.int .i64 5)), [], []⟩))) rfl ?_)  |  (refine vcall_pure (f := 41) ((plain_fn _ : Fn _ _ [.s (.int .i64 20)] [] (· = ⟨.a (.s (.int .i64 6)), [], []⟩))) rfl ?_)  |  (refine vcall_pure (f := 41) ((plain_fn _ : Fn _ _ [.s (.int .i64 21)] [] (· = ⟨.a (.s (.int .i64 7)), [], []⟩))) rfl ?_)  |  (refine vcall_pure (f := 41) ((plain_fn _ : Fn _ _ [.s (.int .i64 22)] [] (· = ⟨.a (.s (.int .i64 8)), [], []⟩))) rfl ?_)  |  (refine vcall_pure (f := 41) ((plain_fn _ : Fn _ _ [.s (.int .i64 23)] [] (· = ⟨.a (.s (.int .i64 12)), [], []⟩))) rfl ?_)  |  (refine vcall_pure (f := 42) (rdivide_fn a b ha hb0) rfl ?_)  |  (refine vcall_pure (f := 43) (bit_fn _) rfl ?_)  |  ((with_reducible apply Vl.mk (α := Int)); · first | exact and31 _ hb0 | exact shl_v _ _ | exact shr_v _ _ | exact sar_v _ _ | exact sgn_wrap _ ha | exact sgn_wrap _ hb0) | (with_reducible apply sd_draw; · kernel_rfl) | (apply Sd.mk; · first | exact rfl | trivial | omega | (repeat' apply And.intro) <;> first | exact rfl | exact Nat.le_of_ble_eq_true rfl | omega | decide) | ((with_reducible apply Vl.mk (α := Int)); · (first | (with_reducible exact bits_keep _ _ _ _) | ((rewrite [tdiv_pos]); (focus (first | exact wi64 (by omega) (by omega) | exact wu32 (by omega) (by omega) | exact wi32 (by omega) (by omega))); omega) | exact tmod_pos (by omega) | exact wi64 (by omega) (by omega) | exact wu32 (by omega) (by omega) | exact wu32' _ | exact wu8 (by omega) (by omega) | exact wu64 (by omega) (by omega) | exact wi32 (by omega) (by omega) | rfl)) | ((with_reducible first | apply Vl.mk (α := Bool) | apply Vl.mk (α := Nat) | apply Vl.mk (α := ByteArray) | apply Ge.mk (α := Row) | apply Ge.mk (α := SV) | apply Ge.mk (α := AV)); · exact rfl) | (refine And.intro rfl ?_) | ((with_reducible first | apply Vl.mk (α := List SV) | apply Vl.mk (α := Ef) | apply Vl.mk (α := TV) | apply Ge.mk (α := List SV) | apply Sg.mk | apply Sk.mk); · (first | exact setAll_eq rfl | exact sg_all _ rfl | exact sk_all _ rfl rfl | ((first | apply sg_fc | apply sk_fc | (apply fc_eq; (conv => arg 1; whnf); apply fc_some) | apply fc_eq); (repeat' (first | exact fc_ren (wsv_scal _) | exact fc_ren (by assumption) | ((conv => arg 1; whnf); first | exact fc_nil | apply fc_cons | exact fc_int | exact fc_bool | exact fc_n | exact fc_ns | exact fc_ptr | exact fc_sl | exact fc_str | exact fc_unk | exact fc_fn | apply fc_s | apply fc_agg | apply fc_ta | apply fc_tup | exact fc_an | apply fc_ac | exact fc_tu | exact fc_nat | exact fc_bo | exact fc_none | apply fc_some | apply fc_pair | apply fc_row | apply fc_ef))); (all_goals exact rfl)) | ((dsimp only [Res.ef, renT, renA, renS, renN, nwN, upN, renRow, List.map_cons, List.map_nil, List.length_cons, List.length_nil]); first | done | exact rfl) | (dsimp only [setAll, List.set_cons_zero, List.set_cons_succ, List.cons_append, List.nil_append]; exact rfl) | exact rfl)) | ((first | apply Br.mk | apply Gd.mk) <;> (intro hb; first | (exact absurd hb (by decide)) | exact Bool.noConfusion (hb.symm.trans (by assumption) : true = false) | exact Bool.noConfusion (hb.symm.trans (by assumption) : false = true) | (simp only [decide_eq_true_eq, decide_eq_false_iff_not, beq_iff_eq, bne_iff_ne, beq_eq_false_iff_ne, bne_eq_false_iff_eq, Bool.not_eq_true', Bool.not_eq_false', Int.not_lt, Int.not_le, ge_iff_le, gt_iff_lt, ne_eq, Classical.not_not] at hb; first | (exfalso; omega) | skip) | skip)))); (all_goals (try (conv => whnf)))
  all_goals
    apply fin_pure
    (focus rfl)
    simp only [mkRes]
    first
      | rfl
      | (subst hb; rfl)
      | (have e1 : aluV op a b = 0 := by
           unfold aluV
           repeat rw [if_neg (by omega)]
         have e2 : aluB op = false := by
           unfold aluB; rw [decide_eq_false_iff_not]; omega
         rw [e1, e2])
end Go.Proofs.Ytpkbfpjkpiimiaa
