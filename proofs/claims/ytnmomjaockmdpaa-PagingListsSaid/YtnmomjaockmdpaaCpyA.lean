/- Memory of the reference: Copy. -/
import Derived.Test.YtnmomjaockmdpaaLdA
namespace Go.Proofs.Ytnmomjaockmdpaa
open Go Go.RowKit
set_option linter.unusedSimpArgs false
set_option linter.unusedVariables false

theorem zs_okW (n : Nat) : (List.replicate n (SV.int .u32 0)).length = n * ty24.size ∧ ∀ (k : Nat) s, (List.replicate n (SV.int .u32 0))[k]? = some s → ty24.zero[k % ty24.size]? = some s := by
  refine ⟨by rw [List.length_replicate]; show n = n * 1; omega, fun k s h => ?_⟩
  rw [List.getElem?_replicate] at h
  split at h
  · injection h with h; subst h
    show [SV.int .u32 0][k % 1]? = _
    rw [Nat.mod_one]; rfl
  · cases h
set_option maxRecDepth 100000 in
theorem copyW_fn (xs : List Nat) (n : Nat) (hl : xs.length = n) (hn : n < 4294967296) : Fn Try.prog 19 [.s (.sl 0 0 n)] [⟨false, 1, wsv xs⟩] (· = ⟨.a (.s (.sl 1 0 n)), [], [⟨true, 1, wsv xs⟩]⟩) := by
  have hlw : (wsv xs).length = n := by simp [hl]
  have hsc : allScal (wsv xs) = true := wsv_scal xs
  have hkn : allKnown (wsv xs) = true := wsv_known xs
  have hz := zs_okW n
  have hset : setAll (List.replicate n (SV.int .u32 0)) 0 (wsv xs) = wsv xs := setAll_all (by rw [hlw, List.length_replicate])
  have hlz : (List.replicate n (SV.int .u32 0)).length = n := List.length_replicate
  have m1 : min n n = n := Nat.min_self n
  generalize List.replicate n (SV.int .u32 0) = Z at *
  generalize wsv xs = M at *
  refine fn_of_vc mixed tys_ok _ _ Try.func19 (by kernel_rfl) rfl Try.ntmps19 (by rw [Try.results19]) rfl ?_; dsimp only [argTm, argHl, Nat.zero_add, Nat.reduceAdd, List.length_nil, List.length_cons]
  (repeat' ((conv => whnf); first | (refine Zs.mk Z hz ?_)  |  (apply Sk.mk; · first | exact sk_all M hlw hkn | exact sk_all M (by show M.length = min n n * 1; omega) hkn)  |  (apply Sd.mk; · exact ⟨rfl, by show 0 + M.length ≤ Z.length; omega⟩)  |  ((with_reducible apply Vl.mk (α := List SV)); · with_reducible exact hset) | ((with_reducible apply Vl.mk (α := Nat)); · ((try simp only [tysz, tybz, Int.toNat_natCast, Int.toNat_zero, Int.toNat_one, Nat.zero_add, Nat.zero_mul, Nat.mul_one, Nat.one_mul, Nat.add_zero, Int.sub_zero, Option.getD_some, Option.getD_none, Int.toNat_natCast_add_one]); exact rfl)) | (with_reducible apply sd_draw; · kernel_rfl) | (apply Sd.mk; · first | exact rfl | trivial | omega | (repeat' apply And.intro) <;> first | exact rfl | exact Nat.le_of_ble_eq_true rfl | omega | decide) | ((with_reducible apply Vl.mk (α := Int)); · (first | (with_reducible exact bits_keep _ _ _ _) | ((rewrite [tdiv_pos]); (focus (first | exact wi64 (by omega) (by omega) | exact wu32 (by omega) (by omega) | exact wi32 (by omega) (by omega))); omega) | exact tmod_pos (by omega) | exact wi64 (by omega) (by omega) | exact wu32 (by omega) (by omega) | exact wu32' _ | exact wu8 (by omega) (by omega) | exact wu64 (by omega) (by omega) | exact wi32 (by omega) (by omega) | rfl)) | ((with_reducible first | apply Vl.mk (α := Bool) | apply Vl.mk (α := Nat) | apply Vl.mk (α := ByteArray) | apply Ge.mk (α := Row) | apply Ge.mk (α := SV) | apply Ge.mk (α := AV)); · exact rfl) | (refine And.intro rfl ?_) | ((with_reducible first | apply Vl.mk (α := List SV) | apply Vl.mk (α := Ef) | apply Vl.mk (α := TV) | apply Ge.mk (α := List SV) | apply Sg.mk | apply Sk.mk); · (first | exact setAll_eq rfl | exact sg_all _ rfl | exact sk_all _ rfl rfl | ((first | apply sg_fc | apply sk_fc | (apply fc_eq; (conv => arg 1; whnf); apply fc_some) | apply fc_eq); (repeat' (first | exact fc_ren (wsv_scal _) | exact fc_ren (by assumption) | ((conv => arg 1; whnf); first | exact fc_nil | apply fc_cons | exact fc_int | exact fc_bool | exact fc_n | exact fc_ns | exact fc_ptr | exact fc_sl | exact fc_str | exact fc_unk | exact fc_fn | apply fc_s | apply fc_agg | apply fc_ta | apply fc_tup | exact fc_an | apply fc_ac | exact fc_tu | exact fc_nat | exact fc_bo | exact fc_none | apply fc_some | apply fc_pair | apply fc_row | apply fc_ef))); (all_goals exact rfl)) | ((dsimp only [Res.ef, renT, renA, renS, renN, nwN, upN, renRow, List.map_cons, List.map_nil, List.length_cons, List.length_nil]); first | done | exact rfl) | (dsimp only [setAll, List.set_cons_zero, List.set_cons_succ, List.cons_append, List.nil_append]; exact rfl) | exact rfl)) | ((first | apply Br.mk | apply Gd.mk) <;> (intro hb; first | (exact absurd hb (by decide)) | exact Bool.noConfusion (hb.symm.trans (by assumption) : true = false) | exact Bool.noConfusion (hb.symm.trans (by assumption) : false = true) | (simp only [decide_eq_true_eq, decide_eq_false_iff_not, beq_iff_eq, bne_iff_ne, beq_eq_false_iff_ne, bne_eq_false_iff_eq, Bool.not_eq_true', Bool.not_eq_false', Int.not_lt, Int.not_le, ge_iff_le, gt_iff_lt, ne_eq, Classical.not_not] at hb; first | (exfalso; omega) | skip) | skip)) | (apply Sd.mk; · (repeat' apply And.intro) <;> (try simp only [tysz, tybz, Int.toNat_natCast, Int.toNat_zero, Int.toNat_one, Nat.zero_add, Nat.zero_mul, Nat.mul_one, Nat.one_mul, Nat.add_zero, Int.sub_zero, Option.getD_some, Option.getD_none, Int.toNat_natCast_add_one]) <;> first | exact rfl | omega))); (all_goals (try (conv => whnf)))
  all_goals first | (apply Fin.mk (m := [(0, some 0), (1, some _)]); (focus exact rfl); (all_goals ((try (show HlS _ _ [] _)); first | ((repeat' (first | exact SVsM.nil | exact avsm_nil | exact svm_same rfl | exact svm_ptr rfl | exact svm_sl rfl | exact svm_slnil rfl | exact svsm_scal rfl | exact svsm_scal (wsv_scal _) | exact svsm_scal (by assumption) | exact hls_nil | apply SVsM.cons | apply tvm_a | apply tvm_tup | apply avm_agg | apply avm_s | apply avsm_cons | exact trivial | (refine hls_skip rfl ?_) | apply hls_none | apply hls_row | (refine rowmt_mk rfl rfl rfl rfl ?_) | exact rowmt_nil rfl rfl)); done) | exact rfl))) | trace_state
end Go.Proofs.Ytnmomjaockmdpaa
