/- Names of operations; the reference's Ends. -/
import Derived.Test.YtppjiheebpabjaaBlkR
import Derived.Test.YtppjiheebpabjaaFrmA
namespace Go.Proofs.Ytppjiheebpabjaa
open Go Go.RowKit
set_option linter.unusedSimpArgs false
set_option linter.unusedVariables false

theorem valid0 (o : Int) : validB o 0 0 0 0 = useOk o := by
  have h1 : regB 0 (useA o) = true := by cases useA o <;> rfl
  have h2 : regB 0 (useB o) = true := by cases useB o <;> rfl
  have h3 : regB 0 (useC o) = true := by cases useC o <;> rfl
  have h4 : (0 : Int) ≥ useLo o := by unfold useLo; split <;> omega
  have h5 : (0 : Int) ≤ useHi o := by unfold useHi; repeat' split
                                      all_goals omega
  unfold validB
  rw [h1, h2, h3, decide_eq_true h4, decide_eq_true h5]
  simp
theorem validO_fn (o : Int) : Fn Try.prog 31 [.agg (iv o 0 0 0 0)] [] (· = ⟨.a (.s (.bool (useOk o))), [], []⟩) := by
  rw [← valid0 o]; exact valid_fn o 0 0 0 0
theorem useOk_iff (o : Int) : useOk o = decide (1 ≤ o ∧ o ≤ 13 ∨ 16 ≤ o ∧ o ≤ 24 ∨ 32 ≤ o ∧ o ≤ 36 ∨ 40 ≤ o ∧ o ≤ 45 ∨ o = 48 ∨ o = 49 ∨ 56 ≤ o ∧ o ≤ 64) := by
  unfold useOk useA
  rw [Bool.eq_iff_iff]
  simp only [Bool.or_eq_true, decide_eq_true_eq]
  omega
theorem formV_pos (o : Int) : (formV o > 0) ↔ useOk o = true := by
  rw [useOk_iff, decide_eq_true_eq]
  unfold formV
  repeat' split
  all_goals omega
set_option maxRecDepth 100000 in
theorem rends_fn (o : Int) : Fn Try.prog 41 [.s (.int .i64 o)] [] (· = ⟨.a (.s (.bool (endsB o))), [], []⟩) := by
  have hf := form_fn o
  have hp := formV_pos o
  rw [useOk_iff, decide_eq_true_eq] at hp
  unfold endsB
  generalize formV o = f at *
  refine fn_of_vc mixed tys_ok _ _ Try.func41 (by kernel_rfl) rfl Try.ntmps41 (by rw [Try.results41]) rfl ?_; dsimp only [argTm, argHl, Nat.zero_add, Nat.reduceAdd, List.length_nil, List.length_cons]
  (repeat' ((conv => whnf); first | (refine vcall_pure (f := 44) (hf) rfl ?_) | (with_reducible apply sd_draw; · kernel_rfl) | (apply Sd.mk; · first | exact rfl | trivial | omega | (repeat' apply And.intro) <;> first | exact rfl | exact Nat.le_of_ble_eq_true rfl | omega | decide) | ((with_reducible apply Vl.mk (α := Int)); · (first | (with_reducible exact bits_keep _ _ _ _) | ((rewrite [tdiv_pos]); (focus (first | exact wi64 (by omega) (by omega) | exact wu32 (by omega) (by omega) | exact wi32 (by omega) (by omega))); omega) | exact tmod_pos (by omega) | exact wi64 (by omega) (by omega) | exact wu32 (by omega) (by omega) | exact wu32' _ | exact wu8 (by omega) (by omega) | exact wu64 (by omega) (by omega) | exact wi32 (by omega) (by omega) | rfl)) | ((with_reducible first | apply Vl.mk (α := Bool) | apply Vl.mk (α := Nat) | apply Vl.mk (α := ByteArray) | apply Ge.mk (α := Row) | apply Ge.mk (α := SV) | apply Ge.mk (α := AV)); · exact rfl) | (refine And.intro rfl ?_) | ((with_reducible first | apply Vl.mk (α := List SV) | apply Vl.mk (α := Ef) | apply Vl.mk (α := TV) | apply Ge.mk (α := List SV) | apply Sg.mk | apply Sk.mk); · (first | exact setAll_eq rfl | exact sg_all _ rfl | exact sk_all _ rfl rfl | ((first | apply sg_fc | apply sk_fc | (apply fc_eq; (conv => arg 1; whnf); apply fc_some) | apply fc_eq); (repeat' (first | exact fc_ren (wsv_scal _) | exact fc_ren (by assumption) | ((conv => arg 1; whnf); first | exact fc_nil | apply fc_cons | exact fc_int | exact fc_bool | exact fc_n | exact fc_ns | exact fc_ptr | exact fc_sl | exact fc_str | exact fc_unk | exact fc_fn | apply fc_s | apply fc_agg | apply fc_ta | apply fc_tup | exact fc_an | apply fc_ac | exact fc_tu | exact fc_nat | exact fc_bo | exact fc_none | apply fc_some | apply fc_pair | apply fc_row | apply fc_ef))); (all_goals exact rfl)) | ((dsimp only [Res.ef, renT, renA, renS, renN, nwN, upN, renRow, List.map_cons, List.map_nil, List.length_cons, List.length_nil]); first | done | exact rfl) | (dsimp only [setAll, List.set_cons_zero, List.set_cons_succ, List.cons_append, List.nil_append]; exact rfl) | exact rfl)) | ((first | apply Br.mk | apply Gd.mk) <;> (intro hb; first | (exact absurd hb (by decide)) | exact Bool.noConfusion (hb.symm.trans (by assumption) : true = false) | exact Bool.noConfusion (hb.symm.trans (by assumption) : false = true) | (simp only [decide_eq_true_eq, decide_eq_false_iff_not, beq_iff_eq, bne_iff_ne, beq_eq_false_iff_ne, bne_eq_false_iff_eq, Bool.not_eq_true', Bool.not_eq_false', Int.not_lt, Int.not_le, ge_iff_le, gt_iff_lt, ne_eq, Classical.not_not] at hb; first | (exfalso; omega) | skip) | skip)))); (all_goals (try (conv => whnf)))
  all_goals
    apply fin_pure
    (focus rfl)
    simp only [mkRes]
    congr 3
    first
      | (refine (decide_eq_true ?_).symm; omega)
      | (refine (decide_eq_false ?_).symm; omega)
      | (rw [Bool.eq_iff_iff]; simp only [decide_eq_true_eq]; omega)
def mnL (o : Int) : List (List UInt8) :=
  if o ≤ 13 then [[97, 100, 100], [115, 117, 98], [97, 110, 100], [111, 114], [120, 111, 114], [115, 104, 108], [115, 104, 114], [115, 97, 114], [109, 117, 108], [100, 105, 118], [114, 101, 109], [115, 108, 116], [115, 108, 116, 117]] else []
end Go.Proofs.Ytppjiheebpabjaa
