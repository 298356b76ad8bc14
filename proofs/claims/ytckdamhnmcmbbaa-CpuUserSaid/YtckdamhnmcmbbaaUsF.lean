/- CpuUser: the law. -/
import Derived.Test.YtckdamhnmcmbbaaUsE
import Derived.Test.YtckdamhnmcmbbaaTrf0
namespace Go.Proofs.Ytckdamhnmcmbbaa
open Go Go.RowKit
set_option linter.unusedSimpArgs false
set_option linter.unusedVariables false

theorem us_all (x : List Nat) (w fl : Nat) (o a b c m : Int) (xs : List Nat) (hx : x.length = 16) (hrl : ∀ y ∈ x, y < 4294967296) (hM : Mem fl xs) (hw : xs.getD 96 0 = w) (hwl : w < 4294967296)
    (he : (w : Int) = encV o a b c m) (hv : rvV o a b c m = true) (hmr : -2147483648 ≤ m ∧ m ≤ 2147483647) (ho : opOk o) : UsR x fl xs := by
  obtain ⟨g1, g2, g3, g4, g5, g6⟩ := dec_enc hv he
  have hd1 := decode_ok w hwl g6
  rw [g1, g2, g3, g4, g5] at hd1
  obtain ⟨v1, v2, v3, v4, v5, v6, v7, v8, v9⟩ := of_decide_eq_true hv
  obtain ⟨A, rfl⟩ : ∃ A : Nat, a = (A : Int) := ⟨a.toNat, by omega⟩
  obtain ⟨B, rfl⟩ : ∃ B : Nat, b = (B : Int) := ⟨b.toNat, by omega⟩
  obtain ⟨C, rfl⟩ : ∃ C : Nat, c = (C : Int) := ⟨c.toNat, by omega⟩
  have hA : A < 16 := by omega
  have hB : B < 16 := by omega
  have hC : C < 16 := by omega
  obtain ⟨m', hm⟩ : ∃ m' : Nat, IntKind.u32.wrap m = (m' : Int) := ⟨(IntKind.u32.wrap m).toNat, by rw [wu32']; omega⟩
  have hm' : m' < 4294967296 := by rw [wu32'] at hm; omega
  obtain ⟨x0, x1, x2, x3, x4, x5, x6, x7, x8, x9, x10, x11, x12, x13, x14, x15, rfl⟩ := len16 hx
  unfold opOk at ho
  have hcase : (1 ≤ o ∧ o ≤ 13) ∨ (16 ≤ o ∧ o ≤ 23) ∨ o = 24 ∨ o = 32 ∨ o = 33 ∨ o = 34 ∨ o = 35 ∨ o = 36 ∨ (40 ≤ o ∧ o ≤ 45) ∨ o = 48 ∨ o = 49 ∨ o = 56 ∨ (57 ≤ o ∧ o ≤ 64) := by omega
  rcases hcase with h | h | h | h | h | h | h | h | h | h | h | h | h
  · exact us_alu3 x0 x1 x2 x3 x4 x5 x6 x7 x8 x9 x10 x11 x12 x13 x14 x15 w A B C m' fl o m xs hM hrl hw hd1 hA hB hC hm hm' h
  · exact us_alui x0 x1 x2 x3 x4 x5 x6 x7 x8 x9 x10 x11 x12 x13 x14 x15 w A B C m' fl o m xs hM hrl hw hd1 hA hB hC hm hm' h
  · exact us_lui x0 x1 x2 x3 x4 x5 x6 x7 x8 x9 x10 x11 x12 x13 x14 x15 w A B C m' fl o m xs hM hrl hw hd1 hA hB hC hm hm' h
  · have hC0 : C = 0 := by
      rw [h, show formV 32 = 3 from rfl] at v7; omega
    exact us_32 x0 x1 x2 x3 x4 x5 x6 x7 x8 x9 x10 x11 x12 x13 x14 x15 w A B C m' fl o m xs hM hrl hw hd1 hA hB hC hm hm' h hC0
  · have hC0 : C = 0 := by
      rw [h, show formV 33 = 3 from rfl] at v7; omega
    exact us_33 x0 x1 x2 x3 x4 x5 x6 x7 x8 x9 x10 x11 x12 x13 x14 x15 w A B C m' fl o m xs hM hrl hw hd1 hA hB hC hm hm' h hC0
  · have hC0 : C = 0 := by
      rw [h, show formV 34 = 3 from rfl] at v7; omega
    exact us_34 x0 x1 x2 x3 x4 x5 x6 x7 x8 x9 x10 x11 x12 x13 x14 x15 w A B C m' fl o m xs hM hrl hw hd1 hA hB hC hm hm' h hC0
  · have hC0 : C = 0 := by
      rw [h, show formV 35 = 3 from rfl] at v7; omega
    exact us_35 x0 x1 x2 x3 x4 x5 x6 x7 x8 x9 x10 x11 x12 x13 x14 x15 w A B C m' fl o m xs hM hrl hw hd1 hA hB hC hm hm' h hC0
  · have hC0 : C = 0 := by
      rw [h, show formV 36 = 3 from rfl] at v7; omega
    exact us_36 x0 x1 x2 x3 x4 x5 x6 x7 x8 x9 x10 x11 x12 x13 x14 x15 w A B C m' fl o m xs hM hrl hw hd1 hA hB hC hm hm' h hC0
  · exact us_br x0 x1 x2 x3 x4 x5 x6 x7 x8 x9 x10 x11 x12 x13 x14 x15 w A B C m' fl o m xs hM hrl hw hd1 hA hB hC hm hm' h
  · exact us_jal x0 x1 x2 x3 x4 x5 x6 x7 x8 x9 x10 x11 x12 x13 x14 x15 w A B C m' fl o m xs hM hrl hw hd1 hA hB hC hm hm' h
  · exact us_jalr x0 x1 x2 x3 x4 x5 x6 x7 x8 x9 x10 x11 x12 x13 x14 x15 w A B C m' fl o m xs hM hrl hw hd1 hA hB hC hm hm' h
  · exact us_ecall x0 x1 x2 x3 x4 x5 x6 x7 x8 x9 x10 x11 x12 x13 x14 x15 w A B C m' fl o m xs hM hrl hw hd1 hA hB hC hm hm' h
  · exact us_priv x0 x1 x2 x3 x4 x5 x6 x7 x8 x9 x10 x11 x12 x13 x14 x15 w A B C m' fl o m xs hM hrl hw hd1 hA hB hC hm hm' hwl h
set_option maxRecDepth 100000 in
theorem few_fn (k1 k2 : Nat) (r1 r2 : List SV) (h1 : allScal r1 = true) (h2 : allScal r2 = true) (bo : Bool) (hbo : bo = (decide (k1 ≤ 40) && decide (k2 ≤ 30))) : Fn Try.prog 31 [.s (.sl 0 0 k1), .s (.sl 1 0 k2)] [⟨false, 1, r1⟩, ⟨false, 1, r2⟩] (· = ⟨.a (.s (.bool bo)), [], []⟩) := by
  by_cases c1 : k1 ≤ 40
  · by_cases c2 : k2 ≤ 30
    · obtain rfl : bo = true := by rw [hbo]; simp; omega
      refine fn_of_vc mixed tys_ok _ _ Try.func31 (by kernel_rfl) rfl Try.ntmps31 (by rw [Try.results31]) rfl ?_; dsimp only [argTm, argHl, Nat.zero_add, Nat.reduceAdd, List.length_nil, List.length_cons]
      (repeat' ((conv => whnf); first | ((first | apply Br.mk | apply Gd.mk) <;> (intro hb; first | (exact absurd hb (by decide)) | exact Bool.noConfusion (hb.symm.trans (by assumption) : true = false) | exact Bool.noConfusion (hb.symm.trans (by assumption) : false = true) | (exfalso; revert hb; simp only [beq_self_eq_true, Bool.and_true, Bool.and_self, reduceCtorEq, false_implies, bne_self_eq_false, imp_false, not_true_eq_false, not_false_eq_true, Bool.true_eq_false, Bool.false_eq_true]; done) | (simp only [decide_eq_true_eq, decide_eq_false_iff_not, beq_iff_eq, bne_iff_ne, beq_eq_false_iff_ne, bne_eq_false_iff_eq, Bool.not_eq_true', Bool.not_eq_false', Int.not_lt, Int.not_le, ge_iff_le, gt_iff_lt, ne_eq, Classical.not_not] at hb; first | (exfalso; omega) | skip) | skip))  |  (refine Eqs.mk _ (eqt_ok _ _ rfl _ _ _ rfl) ?_) | (with_reducible apply sd_draw; · kernel_rfl) | (apply Sd.mk; · first | exact rfl | trivial | omega | (repeat' apply And.intro) <;> first | exact rfl | exact Nat.le_of_ble_eq_true rfl | omega | decide) | ((with_reducible apply Vl.mk (α := Int)); · (first | (with_reducible exact bits_keep _ _ _ _) | ((rewrite [tdiv_pos]); (focus (first | exact wi64 (by omega) (by omega) | exact wu32 (by omega) (by omega) | exact wi32 (by omega) (by omega))); omega) | exact tmod_pos (by omega) | exact wi64 (by omega) (by omega) | exact wu32 (by omega) (by omega) | exact wu32' _ | exact wu8 (by omega) (by omega) | exact wu64 (by omega) (by omega) | exact wi32 (by omega) (by omega) | rfl)) | ((with_reducible first | apply Vl.mk (α := Bool) | apply Vl.mk (α := Nat) | apply Vl.mk (α := ByteArray) | apply Ge.mk (α := Row) | apply Ge.mk (α := SV) | apply Ge.mk (α := AV)); · exact rfl) | (refine And.intro rfl ?_) | ((with_reducible first | apply Vl.mk (α := List SV) | apply Vl.mk (α := Ef) | apply Vl.mk (α := TV) | apply Ge.mk (α := List SV) | apply Sg.mk | apply Sk.mk); · (first | exact setAll_eq rfl | exact sg_all _ rfl | exact sk_all _ rfl rfl | ((first | apply sg_fc | apply sk_fc | (apply fc_eq; (conv => arg 1; whnf); apply fc_some) | apply fc_eq); (repeat' (first | exact fc_ren (wsv_scal _) | exact fc_ren (by assumption) | ((conv => arg 1; whnf); first | exact fc_nil | apply fc_cons | exact fc_int | exact fc_bool | exact fc_n | exact fc_ns | exact fc_ptr | exact fc_sl | exact fc_str | exact fc_unk | exact fc_fn | apply fc_s | apply fc_agg | apply fc_ta | apply fc_tup | exact fc_an | apply fc_ac | exact fc_tu | exact fc_nat | exact fc_bo | exact fc_none | apply fc_some | apply fc_pair | apply fc_row | apply fc_ef))); (all_goals exact rfl)) | ((dsimp only [Res.ef, renT, renA, renS, renN, nwN, upN, renRow, List.map_cons, List.map_nil, List.length_cons, List.length_nil]); first | done | exact rfl) | (dsimp only [setAll, List.set_cons_zero, List.set_cons_succ, List.cons_append, List.nil_append]; exact rfl) | exact rfl)) | ((first | apply Br.mk | apply Gd.mk) <;> (intro hb; first | (exact absurd hb (by decide)) | exact Bool.noConfusion (hb.symm.trans (by assumption) : true = false) | exact Bool.noConfusion (hb.symm.trans (by assumption) : false = true) | (simp only [decide_eq_true_eq, decide_eq_false_iff_not, beq_iff_eq, bne_iff_ne, beq_eq_false_iff_ne, bne_eq_false_iff_eq, Bool.not_eq_true', Bool.not_eq_false', Int.not_lt, Int.not_le, ge_iff_le, gt_iff_lt, ne_eq, Classical.not_not] at hb; first | (exfalso; omega) | skip) | skip)))); (all_goals (try (conv => whnf)))
      all_goals first | (rw [show decide ((k2 : Int) ≤ 30) = true from decide_eq_true (by omega)]; (apply Fin.mk (m := [(0, some 0), (1, some 1)]); (focus exact rfl); (all_goals ((try (show HlS _ _ [] _)); first | ((repeat' (first | exact SVsM.nil | exact avsm_nil | exact svm_same rfl | exact svm_ptr rfl | exact svm_sl rfl | exact svm_slnil rfl | exact svsm_scal rfl | exact svsm_scal (wsv_scal _) | exact svsm_scal (by assumption) | exact hls_nil | apply SVsM.cons | apply tvm_a | apply tvm_tup | apply avm_agg | apply avm_s | apply avsm_cons | exact trivial | (refine hls_skip rfl ?_) | apply hls_none | apply hls_row | (refine rowmt_mk rfl rfl rfl rfl ?_) | exact rowmt_nil rfl rfl)); done) | exact rfl)))) | trace_state
    · obtain rfl : bo = false := by rw [hbo]; simp; omega
      refine fn_of_vc mixed tys_ok _ _ Try.func31 (by kernel_rfl) rfl Try.ntmps31 (by rw [Try.results31]) rfl ?_; dsimp only [argTm, argHl, Nat.zero_add, Nat.reduceAdd, List.length_nil, List.length_cons]
      (repeat' ((conv => whnf); first | ((first | apply Br.mk | apply Gd.mk) <;> (intro hb; first | (exact absurd hb (by decide)) | exact Bool.noConfusion (hb.symm.trans (by assumption) : true = false) | exact Bool.noConfusion (hb.symm.trans (by assumption) : false = true) | (exfalso; revert hb; simp only [beq_self_eq_true, Bool.and_true, Bool.and_self, reduceCtorEq, false_implies, bne_self_eq_false, imp_false, not_true_eq_false, not_false_eq_true, Bool.true_eq_false, Bool.false_eq_true]; done) | (simp only [decide_eq_true_eq, decide_eq_false_iff_not, beq_iff_eq, bne_iff_ne, beq_eq_false_iff_ne, bne_eq_false_iff_eq, Bool.not_eq_true', Bool.not_eq_false', Int.not_lt, Int.not_le, ge_iff_le, gt_iff_lt, ne_eq, Classical.not_not] at hb; first | (exfalso; omega) | skip) | skip))  |  (refine Eqs.mk _ (eqt_ok _ _ rfl _ _ _ rfl) ?_) | (with_reducible apply sd_draw; · kernel_rfl) | (apply Sd.mk; · first | exact rfl | trivial | omega | (repeat' apply And.intro) <;> first | exact rfl | exact Nat.le_of_ble_eq_true rfl | omega | decide) | ((with_reducible apply Vl.mk (α := Int)); · (first | (with_reducible exact bits_keep _ _ _ _) | ((rewrite [tdiv_pos]); (focus (first | exact wi64 (by omega) (by omega) | exact wu32 (by omega) (by omega) | exact wi32 (by omega) (by omega))); omega) | exact tmod_pos (by omega) | exact wi64 (by omega) (by omega) | exact wu32 (by omega) (by omega) | exact wu32' _ | exact wu8 (by omega) (by omega) | exact wu64 (by omega) (by omega) | exact wi32 (by omega) (by omega) | rfl)) | ((with_reducible first | apply Vl.mk (α := Bool) | apply Vl.mk (α := Nat) | apply Vl.mk (α := ByteArray) | apply Ge.mk (α := Row) | apply Ge.mk (α := SV) | apply Ge.mk (α := AV)); · exact rfl) | (refine And.intro rfl ?_) | ((with_reducible first | apply Vl.mk (α := List SV) | apply Vl.mk (α := Ef) | apply Vl.mk (α := TV) | apply Ge.mk (α := List SV) | apply Sg.mk | apply Sk.mk); · (first | exact setAll_eq rfl | exact sg_all _ rfl | exact sk_all _ rfl rfl | ((first | apply sg_fc | apply sk_fc | (apply fc_eq; (conv => arg 1; whnf); apply fc_some) | apply fc_eq); (repeat' (first | exact fc_ren (wsv_scal _) | exact fc_ren (by assumption) | ((conv => arg 1; whnf); first | exact fc_nil | apply fc_cons | exact fc_int | exact fc_bool | exact fc_n | exact fc_ns | exact fc_ptr | exact fc_sl | exact fc_str | exact fc_unk | exact fc_fn | apply fc_s | apply fc_agg | apply fc_ta | apply fc_tup | exact fc_an | apply fc_ac | exact fc_tu | exact fc_nat | exact fc_bo | exact fc_none | apply fc_some | apply fc_pair | apply fc_row | apply fc_ef))); (all_goals exact rfl)) | ((dsimp only [Res.ef, renT, renA, renS, renN, nwN, upN, renRow, List.map_cons, List.map_nil, List.length_cons, List.length_nil]); first | done | exact rfl) | (dsimp only [setAll, List.set_cons_zero, List.set_cons_succ, List.cons_append, List.nil_append]; exact rfl) | exact rfl)) | ((first | apply Br.mk | apply Gd.mk) <;> (intro hb; first | (exact absurd hb (by decide)) | exact Bool.noConfusion (hb.symm.trans (by assumption) : true = false) | exact Bool.noConfusion (hb.symm.trans (by assumption) : false = true) | (simp only [decide_eq_true_eq, decide_eq_false_iff_not, beq_iff_eq, bne_iff_ne, beq_eq_false_iff_ne, bne_eq_false_iff_eq, Bool.not_eq_true', Bool.not_eq_false', Int.not_lt, Int.not_le, ge_iff_le, gt_iff_lt, ne_eq, Classical.not_not] at hb; first | (exfalso; omega) | skip) | skip)))); (all_goals (try (conv => whnf)))
      all_goals first | (rw [show decide ((k2 : Int) ≤ 30) = false from decide_eq_false (by omega)]; (apply Fin.mk (m := [(0, some 0), (1, some 1)]); (focus exact rfl); (all_goals ((try (show HlS _ _ [] _)); first | ((repeat' (first | exact SVsM.nil | exact avsm_nil | exact svm_same rfl | exact svm_ptr rfl | exact svm_sl rfl | exact svm_slnil rfl | exact svsm_scal rfl | exact svsm_scal (wsv_scal _) | exact svsm_scal (by assumption) | exact hls_nil | apply SVsM.cons | apply tvm_a | apply tvm_tup | apply avm_agg | apply avm_s | apply avsm_cons | exact trivial | (refine hls_skip rfl ?_) | apply hls_none | apply hls_row | (refine rowmt_mk rfl rfl rfl rfl ?_) | exact rowmt_nil rfl rfl)); done) | exact rfl)))) | trace_state
  · obtain rfl : bo = false := by rw [hbo]; simp; omega
    refine fn_of_vc mixed tys_ok _ _ Try.func31 (by kernel_rfl) rfl Try.ntmps31 (by rw [Try.results31]) rfl ?_; dsimp only [argTm, argHl, Nat.zero_add, Nat.reduceAdd, List.length_nil, List.length_cons]
    (repeat' ((conv => whnf); first | ((first | apply Br.mk | apply Gd.mk) <;> (intro hb; first | (exact absurd hb (by decide)) | exact Bool.noConfusion (hb.symm.trans (by assumption) : true = false) | exact Bool.noConfusion (hb.symm.trans (by assumption) : false = true) | (exfalso; revert hb; simp only [beq_self_eq_true, Bool.and_true, Bool.and_self, reduceCtorEq, false_implies, bne_self_eq_false, imp_false, not_true_eq_false, not_false_eq_true, Bool.true_eq_false, Bool.false_eq_true]; done) | (simp only [decide_eq_true_eq, decide_eq_false_iff_not, beq_iff_eq, bne_iff_ne, beq_eq_false_iff_ne, bne_eq_false_iff_eq, Bool.not_eq_true', Bool.not_eq_false', Int.not_lt, Int.not_le, ge_iff_le, gt_iff_lt, ne_eq, Classical.not_not] at hb; first | (exfalso; omega) | skip) | skip))  |  (refine Eqs.mk _ (eqt_ok _ _ rfl _ _ _ rfl) ?_) | (with_reducible apply sd_draw; · kernel_rfl) | (apply Sd.mk; · first | exact rfl | trivial | omega | (repeat' apply And.intro) <;> first | exact rfl | exact Nat.le_of_ble_eq_true rfl | omega | decide) | ((with_reducible apply Vl.mk (α := Int)); · (first | (with_reducible exact bits_keep _ _ _ _) | ((rewrite [tdiv_pos]); (focus (first | exact wi64 (by omega) (by omega) | exact wu32 (by omega) (by omega) | exact wi32 (by omega) (by omega))); omega) | exact tmod_pos (by omega) | exact wi64 (by omega) (by omega) | exact wu32 (by omega) (by omega) | exact wu32' _ | exact wu8 (by omega) (by omega) | exact wu64 (by omega) (by omega) | exact wi32 (by omega) (by omega) | rfl)) | ((with_reducible first | apply Vl.mk (α := Bool) | apply Vl.mk (α := Nat) | apply Vl.mk (α := ByteArray) | apply Ge.mk (α := Row) | apply Ge.mk (α := SV) | apply Ge.mk (α := AV)); · exact rfl) | (refine And.intro rfl ?_) | ((with_reducible first | apply Vl.mk (α := List SV) | apply Vl.mk (α := Ef) | apply Vl.mk (α := TV) | apply Ge.mk (α := List SV) | apply Sg.mk | apply Sk.mk); · (first | exact setAll_eq rfl | exact sg_all _ rfl | exact sk_all _ rfl rfl | ((first | apply sg_fc | apply sk_fc | (apply fc_eq; (conv => arg 1; whnf); apply fc_some) | apply fc_eq); (repeat' (first | exact fc_ren (wsv_scal _) | exact fc_ren (by assumption) | ((conv => arg 1; whnf); first | exact fc_nil | apply fc_cons | exact fc_int | exact fc_bool | exact fc_n | exact fc_ns | exact fc_ptr | exact fc_sl | exact fc_str | exact fc_unk | exact fc_fn | apply fc_s | apply fc_agg | apply fc_ta | apply fc_tup | exact fc_an | apply fc_ac | exact fc_tu | exact fc_nat | exact fc_bo | exact fc_none | apply fc_some | apply fc_pair | apply fc_row | apply fc_ef))); (all_goals exact rfl)) | ((dsimp only [Res.ef, renT, renA, renS, renN, nwN, upN, renRow, List.map_cons, List.map_nil, List.length_cons, List.length_nil]); first | done | exact rfl) | (dsimp only [setAll, List.set_cons_zero, List.set_cons_succ, List.cons_append, List.nil_append]; exact rfl) | exact rfl)) | ((first | apply Br.mk | apply Gd.mk) <;> (intro hb; first | (exact absurd hb (by decide)) | exact Bool.noConfusion (hb.symm.trans (by assumption) : true = false) | exact Bool.noConfusion (hb.symm.trans (by assumption) : false = true) | (simp only [decide_eq_true_eq, decide_eq_false_iff_not, beq_iff_eq, bne_iff_ne, beq_eq_false_iff_ne, bne_eq_false_iff_eq, Bool.not_eq_true', Bool.not_eq_false', Int.not_lt, Int.not_le, ge_iff_le, gt_iff_lt, ne_eq, Classical.not_not] at hb; first | (exfalso; omega) | skip) | skip)))); (all_goals (try (conv => whnf)))
    all_goals first | (apply Fin.mk (m := [(0, some 0), (1, some 1)]); (focus exact rfl); (all_goals ((try (show HlS _ _ [] _)); first | ((repeat' (first | exact SVsM.nil | exact avsm_nil | exact svm_same rfl | exact svm_ptr rfl | exact svm_sl rfl | exact svm_slnil rfl | exact svsm_scal rfl | exact svsm_scal (wsv_scal _) | exact svsm_scal (by assumption) | exact hls_nil | apply SVsM.cons | apply tvm_a | apply tvm_tup | apply avm_agg | apply avm_s | apply avsm_cons | exact trivial | (refine hls_skip rfl ?_) | apply hls_none | apply hls_row | (refine rowmt_mk rfl rfl rfl rfl ?_) | exact rowmt_nil rfl rfl)); done) | exact rfl))) | trace_state
def zM (M : List Nat) : Nat → List Nat
  | 0 => M
  | j + 1 => (zM M j).set j 0
theorem zM_len (M : List Nat) : ∀ j, (zM M j).length = M.length
  | 0 => rfl
  | j + 1 => by unfold zM; rw [List.length_set]; exact zM_len M j
theorem zM_rng {M : List Nat} (h : ∀ y ∈ M, y < 4294967296) : ∀ j, ∀ y ∈ zM M j, y < 4294967296
  | 0 => h
  | j + 1 => set_rng (zM_rng h j) _ _ (by omega)
theorem zM_hi (M : List Nat) : ∀ j i, j ≤ i → (zM M j).getD i 0 = M.getD i 0
  | 0, i, _ => rfl
  | j + 1, i, h => by
    unfold zM
    rw [set_ne _ _ _ _ (by omega)]
    exact zM_hi M j i (by omega)
theorem zM_lo (M : List Nat) : ∀ j i, i < j → j ≤ M.length → (zM M j).getD i 0 = 0
  | 0, i, h, _ => by omega
  | j + 1, i, h, hl => by
    unfold zM
    by_cases e : i = j
    · subst e
      rw [List.getD_eq_getElem?_getD, List.getElem?_set_self (by rw [zM_len]; omega)]; rfl
    · rw [set_ne _ _ _ _ e]
      exact zM_lo M j i (by omega) (by omega)
def memU (M : List Nat) (fl : Nat) : List Nat := ((zM M 32).set 3 773).set 2 (512 + fl)
theorem memU_ok (M : List Nat) (fl : Nat) (hl : M.length = 128) (hr : ∀ y ∈ M, y < 4294967296) (hf : fl < 32) : Mem fl (memU M fl) where
  lt := hf
  len := by unfold memU; rw [List.length_set, List.length_set, zM_len]; exact hl
  rng := set_rng (set_rng (zM_rng hr 32) _ _ (by omega)) _ _ (by omega)
  w3 := by
    unfold memU
    rw [set_ne _ _ _ _ (by omega), List.getD_eq_getElem?_getD, List.getElem?_set_self (by rw [zM_len]; omega)]; rfl
  w2 := by
    unfold memU
    rw [List.getD_eq_getElem?_getD, List.getElem?_set_self (by rw [List.length_set, zM_len]; omega)]; rfl
  z := fun i h1 h2 h3 => by
    unfold memU
    rw [set_ne _ _ _ _ h2, set_ne _ _ _ _ h3]
    exact zM_lo M 32 i h1 (by omega)
theorem memU_96 (M : List Nat) (fl : Nat) : (memU M fl).getD 96 0 = M.getD 96 0 := by
  unfold memU
  rw [set_ne _ _ _ _ (by omega), set_ne _ _ _ _ (by omega)]
  exact zM_hi M 32 96 (by omega)
theorem or512 (f : Nat) (h : f < 32) : bits .or .u32 512 ((f : Nat) : Int) = ((512 + f : Nat) : Int) := by
  have h1 : bits .or .u32 ((512 : Nat) : Int) ((f : Nat) : Int) = ((512 ||| f : Nat) : Int) := or_n 512 f (by omega) (by omega)
  rw [show 512 ||| f = 512 + f from (Nat.two_pow_add_eq_or_of_lt (i := 9) (show f < 2 ^ 9 by omega) 1).symm] at h1
  exact h1
def ust (k1 k2 : Nat) (L1 L2 : List SV) (n : Int) (flg w j : Nat) (rg : List Nat) (Mj : List SV) : St :=
  ⟨[(0, .a (.s (.sl 0 0 k1))), (1, .a (.s (.sl 1 0 k2))), (2, .a (.s (.int .i64 n))), (3, .a (.s (.int .u32 flg))), (8, .a (.s (.bool false))), (11, .a (.s (.ptr 2 0))), (12, .a (.s (.sl 3 0 128))), (13, .a (.s (.int .i64 j)))],
   [(0, some ⟨false, 1, L1⟩), (1, some ⟨false, 1, L2⟩), (2, some ⟨true, 1, cpuC rg 384 [1, 0, 0, 0, 0, 0, 0, 0]⟩), (3, some ⟨true, 1, Mj⟩)], [0]⟩
def ust2 (k1 k2 : Nat) (L1 L2 : List SV) (flg j : Nat) (MU YS : List SV) : St :=
  ⟨[(0, .a (.s (.sl 0 0 k1))), (1, .a (.s (.sl 1 0 k2))), (3, .a (.s (.int .u32 flg))), (8, .a (.s (.bool false))), (12, .a (.s (.sl 2 0 128))), (15, .a (.s (.sl 3 0 128))), (17, .a (.s (.int .i64 j)))],
   [(0, some ⟨false, 1, L1⟩), (1, some ⟨false, 1, L2⟩), (2, some ⟨true, 1, MU⟩), (3, some ⟨true, 1, YS⟩)], [0]⟩
set_option maxHeartbeats 1000000 in
set_option maxRecDepth 1000000 in
theorem user_fn (ls ts : List Int) (k1 k2 : Nat) (n : Int) (flg : Nat) (hl : ls.length = k1) (hl2 : ts.length = k2) (hk : k1 ≤ 9223372036854775807) (hk2 : k2 ≤ 9223372036854775807) (hfl : flg < 4294967296) :
    Fn Try.prog 7 [.s (.sl 0 0 k1), .s (.sl 1 0 k2), .s (.int .i64 n), .s (.int .u32 flg)] [⟨false, 1, isv .i64 ls⟩, ⟨false, 1, isv .i64 ts⟩] (· = ⟨.a (.s (.bool true)), [], []⟩) := by
  have c1 := inst_fn n
  obtain ⟨o, a, b, cc, m, hi, hv, hm, hm2, hio⟩ := inst_ok n
  rw [hi] at c1
  have hop := io_ok n
  rw [← hio] at hop
  have c3 := encode_fn o a b cc m ⟨hm, hm2⟩ hv
  have hel := enc_lt hv
  obtain ⟨w, hw⟩ : ∃ w : Nat, (w : Int) = encV o a b cc m := ⟨(encV o a b cc m).toNat, by omega⟩
  rw [← hw] at c3
  have hwl : w < 4294967296 := by omega
  have c4 : Fn Try.prog 27 [.s (.sl 0 0 k1), .s (.int .u32 384), .s (.int .u32 w)] [⟨false, 1, isv .i64 ls⟩] _ := placed_fn ls k1 384 w hl hk (by omega) hwl
  have hml : ((memL ls 128).set (384 / 4) w).length = 128 := by rw [List.length_set, memL_len]
  have hg : ((memL ls 128).set (384 / 4) w).getD 96 0 = w := set_get (memL ls 128) (384 / 4) w (by rw [memL_len]; omega)
  have hmt := set_rng (memL_lt ls 128) (384 / 4) w hwl
  generalize (memL ls 128).set (384 / 4) w = M at *
  have hrl := regsV_len ls
  have hrt := regsV_lt ls
  generalize regsV ls = rg at *
  have hf32 : flg % 32 < 32 := Nat.mod_lt _ (by omega)
  have hMU := memU_ok M (flg % 32) hml hmt hf32
  have h96 := memU_96 M (flg % 32)
  rw [hg] at h96
  obtain ⟨x', pc', c', ys, hx', hc', hys, hP, c5⟩ := us_all rg w (flg % 32) o a b cc m _ hrl hrt hMU h96 hwl hw hv ⟨hm, hm2⟩ hop
  obtain ⟨bo, hbo⟩ : ∃ bo : Bool, bo = (decide (k1 ≤ 40) && decide (k2 ≤ 30)) := ⟨_, rfl⟩
  have hi1 : allScal (isv .i64 ls) = true := isv_scal _ _
  have hi2 : allScal (isv .i64 ts) = true := isv_scal _ _
  have c0 := few_fn k1 k2 _ _ hi1 hi2 bo hbo
  have f1 : (flg : Int).tmod 32 = ((flg % 32 : Nat) : Int) := by rw [tmod_pos (by omega)]; omega
  have f2 := or512 (flg % 32) hf32
  have f3 : bits .and .u32 (flg : Int) 3 = ((flg % 4 : Nat) : Int) := and_mask flg 2 hfl (by omega)
  have f4 : flg % 32 % 4 = flg % 4 := by omega
  have s3 := wsv_set (zM M 32) 3 773 (by rw [zM_len]; omega)
  have s2 := wsv_set ((zM M 32).set 3 773) 2 (512 + flg % 32) (by rw [List.length_set, zM_len]; omega)
  change setAll _ 2 _ = wsv (memU M (flg % 32)) at s2
  have hs : allScal (cpuC x' pc' c') = true := allScal_append (wsv_scal _) (wsv_scal _)
  have hcl : (cpuC x' pc' c').length = 25 := by unfold cpuC; simp [hx', hc']
  have hck : allKnown (cpuC x' pc' c') = true := cpu_known _ _ _
  have hsa : ∀ L : List SV, L.length = 25 → setAll L 0 (cpuC x' pc' c') = cpuC x' pc' c' := fun L hL => setAll_all (by rw [hL, hcl])
  generalize cpuC x' pc' c' = C' at *
  have hset : ∀ j : Nat, j < 32 → setAll (wsv (zM M j)) j [.int .u32 (0 : Nat)] = wsv (zM M (j + 1)) := fun j hj => wsv_set (zM M j) j 0 (by rw [zM_len]; omega)
  have hzl : ∀ j : Nat, (wsv (zM M j)).length = 128 := fun j => by rw [wsv_length, zM_len, hml]
  have hzs : ∀ j : Nat, allScal (wsv (zM M j)) = true := fun j => wsv_scal _
  have hz0 : wsv (zM M 0) = wsv M := rfl
  have hsM : allScal (wsv M) = true := wsv_scal _
  have hul : (wsv (memU M (flg % 32))).length = 128 := by rw [wsv_length, hMU.len]
  have hus : allScal (wsv (memU M (flg % 32))) = true := wsv_scal _
  have hyl : (wsv ys).length = 128 := by rw [wsv_length, hys]
  have hysc : allScal (wsv ys) = true := wsv_scal _
  have h3l : (wsv ((zM M 32).set 3 773)).length = 128 := by rw [wsv_length, List.length_set, zM_len, hml]
  have gu : ∀ j : Nat, (j : Int) < 128 → (wsv (memU M (flg % 32)))[0 + ((j : Nat) : Int).toNat * 1]? = some (.int .u32 ((memU M (flg % 32)).getD j 0 : Nat)) := fun j hj => by
    rw [Nat.zero_add, Nat.mul_one, Int.toNat_natCast]; exact wsv_get _ j (by rw [hMU.len]; omega)
  have gy : ∀ j : Nat, (j : Int) < 128 → (wsv ys)[0 + ((j : Nat) : Int).toNat * 1]? = some (.int .u32 (ys.getD j 0 : Nat)) := fun j hj => by
    rw [Nat.zero_add, Nat.mul_one, Int.toNat_natCast]; exact wsv_get _ j (by omega)
  unfold UsP at hP
  rw [f4] at hP
  generalize (memU M (flg % 32)).getD = gU at *
  generalize ys.getD = gY at *
  generalize wsv (memU M (flg % 32)) = MU at *
  generalize wsv ((zM M 32).set 3 773) = M3 at *
  generalize wsv ys = YS at *
  generalize hZ : (fun j => wsv (zM M j)) = Z at *
  have hZ' : ∀ j, wsv (zM M j) = Z j := fun j => by rw [← hZ]
  simp only [hZ'] at *
  have hzs0 := hzs 0
  generalize wsv M = M0 at *
  generalize isv .i64 ls = L1 at *
  generalize isv .i64 ts = L2 at *
  obtain ⟨x0, x1, x2, x3, x4, x5, x6, x7, x8, x9, x10, x11, x12, x13, x14, x15, rfl⟩ := len16 hrl
  clear hv hw hop hmt hrt hi hio hel hMU
  refine fn_of_vc mixed tys_ok _ _ Try.func7 (by kernel_rfl) rfl Try.ntmps7 (by rw [Try.results7]) rfl ?_; dsimp only [argTm, argHl, Nat.zero_add, Nat.reduceAdd, List.length_nil, List.length_cons]
  (repeat' ((conv => whnf); first | (refine vcall_pure (f := 26) (c1) rfl ?_)  |  (refine vcall_pure (f := 25) (c3) rfl ?_)  |  (refine vcall_det (f := 31) c0 [⟨0, 0⟩, ⟨1, 0⟩] [(0, ⟨false, 1, L1⟩), (1, ⟨false, 1, L2⟩)] rfl ⟨rfl, rfl, trivial⟩ ⟨rfl, rowM_ro hi1, rfl, rowM_ro hi2, trivial⟩ ⟨rfl, noUp⟩ ?_)  |  (refine vcall_det (f := 27) c4 [⟨0, 0⟩] [(0, ⟨false, 1, L1⟩)] rfl ⟨rfl, trivial⟩ ⟨rfl, rowM_ro hi1, trivial⟩ ⟨rfl, noUp⟩ ?_)  |  (refine vcall_pure (f := 18) (awake_fn) rfl ?_) | (with_reducible apply sd_draw; · kernel_rfl) | (apply Sd.mk; · first | exact rfl | trivial | omega | (repeat' apply And.intro) <;> first | exact rfl | exact Nat.le_of_ble_eq_true rfl | omega | decide) | ((with_reducible apply Vl.mk (α := Int)); · (first | (with_reducible exact bits_keep _ _ _ _) | ((rewrite [tdiv_pos]); (focus (first | exact wi64 (by omega) (by omega) | exact wu32 (by omega) (by omega) | exact wi32 (by omega) (by omega))); omega) | exact tmod_pos (by omega) | exact wi64 (by omega) (by omega) | exact wu32 (by omega) (by omega) | exact wu32' _ | exact wu8 (by omega) (by omega) | exact wu64 (by omega) (by omega) | exact wi32 (by omega) (by omega) | rfl)) | ((with_reducible first | apply Vl.mk (α := Bool) | apply Vl.mk (α := Nat) | apply Vl.mk (α := ByteArray) | apply Ge.mk (α := Row) | apply Ge.mk (α := SV) | apply Ge.mk (α := AV)); · exact rfl) | (refine And.intro rfl ?_) | ((with_reducible first | apply Vl.mk (α := List SV) | apply Vl.mk (α := Ef) | apply Vl.mk (α := TV) | apply Ge.mk (α := List SV) | apply Sg.mk | apply Sk.mk); · (first | exact setAll_eq rfl | exact sg_all _ rfl | exact sk_all _ rfl rfl | ((first | apply sg_fc | apply sk_fc | (apply fc_eq; (conv => arg 1; whnf); apply fc_some) | apply fc_eq); (repeat' (first | exact fc_ren (wsv_scal _) | exact fc_ren (by assumption) | ((conv => arg 1; whnf); first | exact fc_nil | apply fc_cons | exact fc_int | exact fc_bool | exact fc_n | exact fc_ns | exact fc_ptr | exact fc_sl | exact fc_str | exact fc_unk | exact fc_fn | apply fc_s | apply fc_agg | apply fc_ta | apply fc_tup | exact fc_an | apply fc_ac | exact fc_tu | exact fc_nat | exact fc_bo | exact fc_none | apply fc_some | apply fc_pair | apply fc_row | apply fc_ef))); (all_goals exact rfl)) | ((dsimp only [Res.ef, renT, renA, renS, renN, nwN, upN, renRow, List.map_cons, List.map_nil, List.length_cons, List.length_nil]); first | done | exact rfl) | (dsimp only [setAll, List.set_cons_zero, List.set_cons_succ, List.cons_append, List.nil_append]; exact rfl) | exact rfl)) | ((first | apply Br.mk | apply Gd.mk) <;> (intro hb; first | (exact absurd hb (by decide)) | exact Bool.noConfusion (hb.symm.trans (by assumption) : true = false) | exact Bool.noConfusion (hb.symm.trans (by assumption) : false = true) | (simp only [decide_eq_true_eq, decide_eq_false_iff_not, beq_iff_eq, bne_iff_ne, beq_eq_false_iff_ne, bne_eq_false_iff_eq, Bool.not_eq_true', Bool.not_eq_false', Int.not_lt, Int.not_le, ge_iff_le, gt_iff_lt, ne_eq, Classical.not_not] at hb; first | (exfalso; omega) | skip) | skip)))); (all_goals (try (conv => whnf)))
  · (apply Fin.mk (m := [(0, some 0), (1, some 1)]); (focus exact rfl); (all_goals ((try (show HlS _ _ [] _)); first | ((repeat' (first | exact SVsM.nil | exact avsm_nil | exact svm_same rfl | exact svm_ptr rfl | exact svm_sl rfl | exact svm_slnil rfl | exact svsm_scal rfl | exact svsm_scal (wsv_scal _) | exact svsm_scal (by assumption) | exact hls_nil | apply SVsM.cons | apply tvm_a | apply tvm_tup | apply avm_agg | apply avm_s | apply avsm_cons | exact trivial | (refine hls_skip rfl ?_) | apply hls_none | apply hls_row | (refine rowmt_mk rfl rfl rfl rfl ?_) | exact rowmt_nil rfl rfl)); done) | exact rfl)))
  · refine Lp.inv (fun mm σ => ∃ j : Nat, mm + j = 32 ∧ σ = ust k1 k2 L1 L2 n flg w j [x0, x1, x2, x3, x4, x5, x6, x7, x8, x9, x10, x11, x12, x13, x14, x15] (Z j)) ?_ ?_
    · refine ⟨32, ust k1 k2 L1 L2 n flg w 0 [x0, x1, x2, x3, x4, x5, x6, x7, x8, x9, x10, x11, x12, x13, x14, x15] (Z 0), ?_, 0, by omega, rfl⟩
      rw [hz0]
      · apply wk_of (m := [(0, some 0), (1, some 1), (2, some 262528), (3, some 262272)])
        · repeat' (first | exact tml_nil | apply tml_cons)
          all_goals first | exact tvm_a (avm_s (svm_same rfl)) | exact tvm_a (avm_s (svm_ptr rfl)) | exact tvm_a (avm_s (svm_sl rfl))
        · show HlS _ _ [] _
          refine hls_row (rowmt_mk rfl rfl rfl rfl (svsm_scal hi1)) ?_
          refine hls_row (rowmt_mk rfl rfl rfl rfl (svsm_scal hi2)) ?_
          refine hls_row (rowmt_mk rfl rfl rfl rfl (svsm_scal rfl)) ?_
          refine hls_row (rowmt_mk rfl rfl rfl rfl (svsm_scal hsM)) ?_
          exact hls_nil
        · rfl
    · rintro mm σ ⟨j, hmj, rfl⟩
      unfold ust
      have j1 : j < 32 → IntKind.i64.wrap ((j : Int) + 1) = ((j + 1 : Nat) : Int) := fun h => by rw [wi64 (by omega) (by omega)]; omega
      have hj := hzl j
      have hsj := hzs j
      have hsj1 := hzs (j + 1)
      have hs2 : j < 32 → setAll (Z j) j [absS (Value.int IntKind.u32 0)] = Z (j + 1) := fun h => hset j h
      have h3i : 0 + (3 : Int).toNat * ty22.size = 3 := rfl
      have h2i : 0 + (2 : Int).toNat * ty22.size = 2 := rfl
      have hln : 0 + ((j : Nat) : Int).toNat * 1 = j := by omega
      have hf3 : ¬ (j : Int) < 32 → setAll (Z j) 3 [absS (Value.int IntKind.u32 773)] = M3 := fun h => by
        obtain rfl : j = 32 := by omega
        exact s3
      have s2' : setAll M3 2 [.int .u32 (512 + flg % 32 : Nat)] = MU := s2
      generalize hMj : Z j = Zj at *
      generalize hMj1 : Z (j + 1) = Zj1 at *
      (repeat' ((conv => whnf); first | (refine vcall_det (f := 28) c5 [⟨_, 0⟩] [(_, ⟨true, 1, MU⟩)] rfl ⟨rfl, trivial⟩ ⟨rfl, rowM_ro hus, trivial⟩ ⟨rfl, noUp⟩ ?_)  |  ((with_reducible apply Vl.mk (α := Int)); · with_reducible first | exact j1 (by omega) | exact f1 | exact f2)  |  (apply Sd.mk; · refine ⟨rfl, rfl, rfl, ?_⟩; first | (show _ + 1 ≤ Zj.length; omega) | (show _ + 1 ≤ M3.length; omega))  |  (apply Sd.mk; · exact ⟨hcl, hck, rfl, by show 0 + C'.length ≤ 25; omega⟩)  |  ((with_reducible apply Vl.mk (α := Nat)); · first | exact hln | exact h3i | exact h2i)  |  ((with_reducible apply Vl.mk (α := List SV)); · first | (with_reducible exact hs2 (by omega)) | (with_reducible exact hf3 (by omega)) | (with_reducible exact s2') | ((with_reducible refine hsa _ ?_); (focus exact rfl))) | (with_reducible apply sd_draw; · kernel_rfl) | (apply Sd.mk; · first | exact rfl | trivial | omega | (repeat' apply And.intro) <;> first | exact rfl | exact Nat.le_of_ble_eq_true rfl | omega | decide) | ((with_reducible apply Vl.mk (α := Int)); · (first | (with_reducible exact bits_keep _ _ _ _) | ((rewrite [tdiv_pos]); (focus (first | exact wi64 (by omega) (by omega) | exact wu32 (by omega) (by omega) | exact wi32 (by omega) (by omega))); omega) | exact tmod_pos (by omega) | exact wi64 (by omega) (by omega) | exact wu32 (by omega) (by omega) | exact wu32' _ | exact wu8 (by omega) (by omega) | exact wu64 (by omega) (by omega) | exact wi32 (by omega) (by omega) | rfl)) | ((with_reducible first | apply Vl.mk (α := Bool) | apply Vl.mk (α := Nat) | apply Vl.mk (α := ByteArray) | apply Ge.mk (α := Row) | apply Ge.mk (α := SV) | apply Ge.mk (α := AV)); · exact rfl) | (refine And.intro rfl ?_) | ((with_reducible first | apply Vl.mk (α := List SV) | apply Vl.mk (α := Ef) | apply Vl.mk (α := TV) | apply Ge.mk (α := List SV) | apply Sg.mk | apply Sk.mk); · (first | exact setAll_eq rfl | exact sg_all _ rfl | exact sk_all _ rfl rfl | ((first | apply sg_fc | apply sk_fc | (apply fc_eq; (conv => arg 1; whnf); apply fc_some) | apply fc_eq); (repeat' (first | exact fc_ren (wsv_scal _) | exact fc_ren (by assumption) | ((conv => arg 1; whnf); first | exact fc_nil | apply fc_cons | exact fc_int | exact fc_bool | exact fc_n | exact fc_ns | exact fc_ptr | exact fc_sl | exact fc_str | exact fc_unk | exact fc_fn | apply fc_s | apply fc_agg | apply fc_ta | apply fc_tup | exact fc_an | apply fc_ac | exact fc_tu | exact fc_nat | exact fc_bo | exact fc_none | apply fc_some | apply fc_pair | apply fc_row | apply fc_ef))); (all_goals exact rfl)) | ((dsimp only [Res.ef, renT, renA, renS, renN, nwN, upN, renRow, List.map_cons, List.map_nil, List.length_cons, List.length_nil]); first | done | exact rfl) | (dsimp only [setAll, List.set_cons_zero, List.set_cons_succ, List.cons_append, List.nil_append]; exact rfl) | exact rfl)) | ((first | apply Br.mk | apply Gd.mk) <;> (intro hb; first | (exact absurd hb (by decide)) | exact Bool.noConfusion (hb.symm.trans (by assumption) : true = false) | exact Bool.noConfusion (hb.symm.trans (by assumption) : false = true) | (simp only [decide_eq_true_eq, decide_eq_false_iff_not, beq_iff_eq, bne_iff_ne, beq_eq_false_iff_ne, bne_eq_false_iff_eq, Bool.not_eq_true', Bool.not_eq_false', Int.not_lt, Int.not_le, ge_iff_le, gt_iff_lt, ne_eq, Classical.not_not] at hb; first | (exfalso; omega) | skip) | skip)))); (all_goals (try (conv => whnf)))
      · refine ⟨mm - 1, ust k1 k2 L1 L2 n flg w (j + 1) [x0, x1, x2, x3, x4, x5, x6, x7, x8, x9, x10, x11, x12, x13, x14, x15] (Z (j + 1)), by omega, ?_, j + 1, by omega, rfl⟩
        rw [hMj1]
        · apply wk_of (m := [(0, some 0), (1, some 1), (2, some 2), (3, some 3)])
          · repeat' (first | exact tml_nil | apply tml_cons)
            all_goals first | exact tvm_a (avm_s (svm_same rfl)) | exact tvm_a (avm_s (svm_ptr rfl)) | exact tvm_a (avm_s (svm_sl rfl))
          · show HlS _ _ [] _
            refine hls_row (rowmt_mk rfl rfl rfl rfl (svsm_scal hi1)) ?_
            refine hls_row (rowmt_mk rfl rfl rfl rfl (svsm_scal hi2)) ?_
            refine hls_row (rowmt_mk rfl rfl rfl rfl (svsm_scal rfl)) ?_
            refine hls_row (rowmt_mk rfl rfl rfl rfl (svsm_scal hsj1)) ?_
            exact hls_nil
          · rfl
      · refine Lp.inv (fun mm σ => ∃ i : Nat, mm + i = 128 ∧ σ = ust2 k1 k2 L1 L2 flg i MU YS) ?_ ?_
        · refine ⟨128, ust2 k1 k2 L1 L2 flg 0 MU YS, ?_, 0, by omega, rfl⟩
          · apply wk_of (m := [(0, some 0), (1, some 1), (2, some 3), (3, some 393344)])
            · repeat' (first | exact tml_nil | apply tml_cons)
              all_goals first | exact tvm_a (avm_s (svm_same rfl)) | exact tvm_a (avm_s (svm_ptr rfl)) | exact tvm_a (avm_s (svm_sl rfl))
            · show HlS _ _ [] _
              refine hls_row (rowmt_mk rfl rfl rfl rfl (svsm_scal hi1)) ?_
              refine hls_row (rowmt_mk rfl rfl rfl rfl (svsm_scal hi2)) ?_
              refine hls_row (rowmt_mk rfl rfl rfl rfl (svsm_scal hus)) ?_
              refine hls_row (rowmt_mk rfl rfl rfl rfl (svsm_scal hysc)) ?_
              exact hls_nil
            · rfl
        · rintro mm2 σ ⟨i, hmi, rfl⟩
          unfold ust2
          have i1 : i < 128 → IntKind.i64.wrap ((i : Int) + 1) = ((i + 1 : Nat) : Int) := fun h => by rw [wi64 (by omega) (by omega)]; omega
          have gui := gu i
          have gyi := gy i
          have hPi := hP i
          generalize gU i 0 = ua at *
          generalize gY i 0 = ya at *
          clear hP gu gy c0 c1 c3 c4 c5 hset s3 s2 s2' hf3 hs2 hsa
          (repeat' ((conv => whnf); first | ((with_reducible apply Ge.mk (α := SV)); · first | exact gui (by omega) | exact gyi (by omega))  |  ((first | apply Br.mk | apply Gd.mk) <;> (intro hb; first | (exact absurd hb (by decide)) | exact Bool.noConfusion (hb.symm.trans (by assumption) : true = false) | exact Bool.noConfusion (hb.symm.trans (by assumption) : false = true) | (exfalso; revert hb; simp only [beq_self_eq_true, Bool.and_true, Bool.and_self, reduceCtorEq, false_implies, bne_self_eq_false, imp_false, not_true_eq_false, not_false_eq_true, Bool.true_eq_false, Bool.false_eq_true]; done) | (simp only [decide_eq_true_eq, decide_eq_false_iff_not, beq_iff_eq, bne_iff_ne, beq_eq_false_iff_ne, bne_eq_false_iff_eq, Bool.not_eq_true', Bool.not_eq_false', Int.not_lt, Int.not_le, ge_iff_le, gt_iff_lt, ne_eq, Classical.not_not] at hb; first | (exfalso; omega) | skip) | skip))  |  (refine Eqs.mk _ (eqt_ok _ _ rfl _ _ _ rfl) ?_)  |  ((with_reducible apply Vl.mk (α := Int)); · with_reducible first | exact i1 (by omega) | exact f3)  |  (refine vcall_pure (f := 18) (awake_fn) rfl ?_) | (with_reducible apply sd_draw; · kernel_rfl) | (apply Sd.mk; · first | exact rfl | trivial | omega | (repeat' apply And.intro) <;> first | exact rfl | exact Nat.le_of_ble_eq_true rfl | omega | decide) | ((with_reducible apply Vl.mk (α := Int)); · (first | (with_reducible exact bits_keep _ _ _ _) | ((rewrite [tdiv_pos]); (focus (first | exact wi64 (by omega) (by omega) | exact wu32 (by omega) (by omega) | exact wi32 (by omega) (by omega))); omega) | exact tmod_pos (by omega) | exact wi64 (by omega) (by omega) | exact wu32 (by omega) (by omega) | exact wu32' _ | exact wu8 (by omega) (by omega) | exact wu64 (by omega) (by omega) | exact wi32 (by omega) (by omega) | rfl)) | ((with_reducible first | apply Vl.mk (α := Bool) | apply Vl.mk (α := Nat) | apply Vl.mk (α := ByteArray) | apply Ge.mk (α := Row) | apply Ge.mk (α := SV) | apply Ge.mk (α := AV)); · exact rfl) | (refine And.intro rfl ?_) | ((with_reducible first | apply Vl.mk (α := List SV) | apply Vl.mk (α := Ef) | apply Vl.mk (α := TV) | apply Ge.mk (α := List SV) | apply Sg.mk | apply Sk.mk); · (first | exact setAll_eq rfl | exact sg_all _ rfl | exact sk_all _ rfl rfl | ((first | apply sg_fc | apply sk_fc | (apply fc_eq; (conv => arg 1; whnf); apply fc_some) | apply fc_eq); (repeat' (first | exact fc_ren (wsv_scal _) | exact fc_ren (by assumption) | ((conv => arg 1; whnf); first | exact fc_nil | apply fc_cons | exact fc_int | exact fc_bool | exact fc_n | exact fc_ns | exact fc_ptr | exact fc_sl | exact fc_str | exact fc_unk | exact fc_fn | apply fc_s | apply fc_agg | apply fc_ta | apply fc_tup | exact fc_an | apply fc_ac | exact fc_tu | exact fc_nat | exact fc_bo | exact fc_none | apply fc_some | apply fc_pair | apply fc_row | apply fc_ef))); (all_goals exact rfl)) | ((dsimp only [Res.ef, renT, renA, renS, renN, nwN, upN, renRow, List.map_cons, List.map_nil, List.length_cons, List.length_nil]); first | done | exact rfl) | (dsimp only [setAll, List.set_cons_zero, List.set_cons_succ, List.cons_append, List.nil_append]; exact rfl) | exact rfl)) | ((first | apply Br.mk | apply Gd.mk) <;> (intro hb; first | (exact absurd hb (by decide)) | exact Bool.noConfusion (hb.symm.trans (by assumption) : true = false) | exact Bool.noConfusion (hb.symm.trans (by assumption) : false = true) | (simp only [decide_eq_true_eq, decide_eq_false_iff_not, beq_iff_eq, bne_iff_ne, beq_eq_false_iff_ne, bne_eq_false_iff_eq, Bool.not_eq_true', Bool.not_eq_false', Int.not_lt, Int.not_le, ge_iff_le, gt_iff_lt, ne_eq, Classical.not_not] at hb; first | (exfalso; omega) | skip) | skip)))); (all_goals (try (conv => whnf)))
          all_goals first
            | (apply Fin.mk (m := [(0, some 0), (1, some 1)]); (focus exact rfl); (all_goals ((try (show HlS _ _ [] _)); first | ((repeat' (first | exact SVsM.nil | exact avsm_nil | exact svm_same rfl | exact svm_ptr rfl | exact svm_sl rfl | exact svm_slnil rfl | exact svsm_scal rfl | exact svsm_scal (wsv_scal _) | exact svsm_scal (by assumption) | exact hls_nil | apply SVsM.cons | apply tvm_a | apply tvm_tup | apply avm_agg | apply avm_s | apply avsm_cons | exact trivial | (refine hls_skip rfl ?_) | apply hls_none | apply hls_row | (refine rowmt_mk rfl rfl rfl rfl ?_) | exact rowmt_nil rfl rfl)); done) | exact rfl)))
            | (refine ⟨mm2 - 1, ust2 k1 k2 L1 L2 flg (i + 1) MU YS, by omega, ?_, i + 1, by omega, rfl⟩
               · apply wk_of (m := [(0, some 0), (1, some 1), (2, some 2), (3, some 3)])
                 · repeat' (first | exact tml_nil | apply tml_cons)
                   all_goals first | exact tvm_a (avm_s (svm_same rfl)) | exact tvm_a (avm_s (svm_ptr rfl)) | exact tvm_a (avm_s (svm_sl rfl))
                 · show HlS _ _ [] _
                   refine hls_row (rowmt_mk rfl rfl rfl rfl (svsm_scal hi1)) ?_
                   refine hls_row (rowmt_mk rfl rfl rfl rfl (svsm_scal hi2)) ?_
                   refine hls_row (rowmt_mk rfl rfl rfl rfl (svsm_scal hus)) ?_
                   refine hls_row (rowmt_mk rfl rfl rfl rfl (svsm_scal hysc)) ?_
                   exact hls_nil
                 · rfl)
            | trace_state
end Go.Proofs.Ytckdamhnmcmbbaa
