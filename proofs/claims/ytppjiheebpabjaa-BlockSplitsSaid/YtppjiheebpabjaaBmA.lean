/- BlockMays. Printed by mkbm.py. -/
import Derived.Test.YtppjiheebpabjaaBbB
namespace Go.Proofs.Ytppjiheebpabjaa
open Go Go.RowKit
set_option linter.unusedSimpArgs false
set_option linter.unusedVariables false

theorem mzs_set (l : List Mz) (j : Nat) (m : Mz) (hj : j < l.length) : setAll (mzs l) (j * 6) m.C = mzs (l.set j m) := by
  apply List.ext_getElem?
  intro i
  rw [setAll_get _ _ _ _ (by rw [mzs_len]; show j * 6 + 6 ≤ _; omega)]
  have hlen : (m.C).length = 6 := rfl
  by_cases h : i / 6 < l.length
  · have e : i = i / 6 * 6 + i % 6 := by omega
    have hm : i % 6 < 6 := Nat.mod_lt _ (by omega)
    by_cases hij : i / 6 = j
    · rw [if_pos (by omega), e, mzs_at (l.set j m) (i / 6) m (by rw [hij, List.getElem?_set_self hj]) _ hm]
      congr 1; omega
    · have hl := List.getElem?_eq_getElem h
      rw [if_neg (by omega), e, mzs_at l (i / 6) _ hl _ hm, mzs_at (l.set j m) (i / 6) _ (by rw [List.getElem?_set_ne (by omega)]; exact hl) _ hm]
  · rw [if_neg (by omega), List.getElem?_eq_none (by rw [mzs_len]; omega), List.getElem?_eq_none (by rw [mzs_len, List.length_set]; omega)]
/-- The number of covered instructions of one operation changed. -/
def setN (l : List Mz) (j : Nat) (q : Int) : List Mz := l.set j { l.getD j ⟨0, 0, 0, 0, 0, 0⟩ with n := q }
theorem setN_len (l : List Mz) (j : Nat) (q : Int) : (setN l j q).length = l.length := by unfold setN; simp
theorem mzs_setN (l : List Mz) (j : Nat) (q : Int) (hj : j < l.length) : setAll (mzs l) (j * 6 + 5) [.int .i64 q] = mzs (setN l j q) := by
  apply List.ext_getElem?
  intro i
  rw [setAll_get _ _ _ _ (by rw [mzs_len]; show j * 6 + 5 + 1 ≤ _; omega)]
  simp only [List.length_cons, List.length_nil, Nat.zero_add]
  have hg : l.getD j ⟨0, 0, 0, 0, 0, 0⟩ = l[j] := by rw [List.getD_eq_getElem?_getD, List.getElem?_eq_getElem hj]; rfl
  by_cases h : i / 6 < l.length
  · have e : i = i / 6 * 6 + i % 6 := by omega
    have hm : i % 6 < 6 := Nat.mod_lt _ (by omega)
    have hl := List.getElem?_eq_getElem h
    by_cases hij : i / 6 = j
    · have hs : (setN l j q)[i / 6]? = some { l[j] with n := q } := by unfold setN; rw [hg, hij, List.getElem?_set_self hj]
      by_cases h5 : i % 6 = 5
      · rw [if_pos (by omega), e, mzs_at (setN l j q) (i / 6) _ hs _ hm, h5, show i / 6 * 6 + 5 - (j * 6 + 5) = 0 by omega]
        rfl
      · rw [if_neg (by omega), e, mzs_at l (i / 6) _ hl _ hm, mzs_at (setN l j q) (i / 6) _ hs _ hm]
        have e2 : l[i / 6] = l[j] := by congr 1
        rw [e2]
        generalize l[j] = m
        have h6 : i % 6 = 0 ∨ i % 6 = 1 ∨ i % 6 = 2 ∨ i % 6 = 3 ∨ i % 6 = 4 := by omega
        rcases h6 with h6 | h6 | h6 | h6 | h6 <;> rw [h6] <;> rfl
    · rw [if_neg (by omega), e, mzs_at l (i / 6) _ hl _ hm, mzs_at (setN l j q) (i / 6) _ (by unfold setN; rw [List.getElem?_set_ne (by omega)]; exact hl) _ hm]
  · rw [if_neg (by omega), List.getElem?_eq_none (by rw [mzs_len]; omega), List.getElem?_eq_none (by rw [mzs_len, setN_len]; omega)]
set_option maxRecDepth 100000 in
theorem few_fn (A L : Int) (N : Nat) (M : List SV) (hs : allScal M = true) : Fn Try.prog 22 [.agg [.int .u32 A, .int .i64 L, .sl 0 0 N]] [⟨false, 6, M⟩] (· = ⟨.a (.s (.bool (decide ((N : Int) ≤ 30)))), [], []⟩) := by
  refine fn_of_vc mixed tys_ok _ _ Try.func22 (by kernel_rfl) rfl Try.ntmps22 (by rw [Try.results22]) rfl ?_; dsimp only [argTm, argHl, Nat.zero_add, Nat.reduceAdd, List.length_nil, List.length_cons]
  (repeat' ((conv => whnf); first | (with_reducible apply sd_draw; · kernel_rfl) | (apply Sd.mk; · first | exact rfl | trivial | omega | (repeat' apply And.intro) <;> first | exact rfl | exact Nat.le_of_ble_eq_true rfl | omega | decide) | ((with_reducible apply Vl.mk (α := Int)); · (first | (with_reducible exact bits_keep _ _ _ _) | ((rewrite [tdiv_pos]); (focus (first | exact wi64 (by omega) (by omega) | exact wu32 (by omega) (by omega) | exact wi32 (by omega) (by omega))); omega) | exact tmod_pos (by omega) | exact wi64 (by omega) (by omega) | exact wu32 (by omega) (by omega) | exact wu32' _ | exact wu8 (by omega) (by omega) | exact wu64 (by omega) (by omega) | exact wi32 (by omega) (by omega) | rfl)) | ((with_reducible first | apply Vl.mk (α := Bool) | apply Vl.mk (α := Nat) | apply Vl.mk (α := ByteArray) | apply Ge.mk (α := Row) | apply Ge.mk (α := SV) | apply Ge.mk (α := AV)); · exact rfl) | (refine And.intro rfl ?_) | ((with_reducible first | apply Vl.mk (α := List SV) | apply Vl.mk (α := Ef) | apply Vl.mk (α := TV) | apply Ge.mk (α := List SV) | apply Sg.mk | apply Sk.mk); · (first | exact setAll_eq rfl | exact sg_all _ rfl | exact sk_all _ rfl rfl | ((first | apply sg_fc | apply sk_fc | (apply fc_eq; (conv => arg 1; whnf); apply fc_some) | apply fc_eq); (repeat' (first | exact fc_ren (wsv_scal _) | exact fc_ren (by assumption) | ((conv => arg 1; whnf); first | exact fc_nil | apply fc_cons | exact fc_int | exact fc_bool | exact fc_n | exact fc_ns | exact fc_ptr | exact fc_sl | exact fc_str | exact fc_unk | exact fc_fn | apply fc_s | apply fc_agg | apply fc_ta | apply fc_tup | exact fc_an | apply fc_ac | exact fc_tu | exact fc_nat | exact fc_bo | exact fc_none | apply fc_some | apply fc_pair | apply fc_row | apply fc_ef))); (all_goals exact rfl)) | ((dsimp only [Res.ef, renT, renA, renS, renN, nwN, upN, renRow, List.map_cons, List.map_nil, List.length_cons, List.length_nil]); first | done | exact rfl) | (dsimp only [setAll, List.set_cons_zero, List.set_cons_succ, List.cons_append, List.nil_append]; exact rfl) | exact rfl)) | ((first | apply Br.mk | apply Gd.mk) <;> (intro hb; first | (exact absurd hb (by decide)) | exact Bool.noConfusion (hb.symm.trans (by assumption) : true = false) | exact Bool.noConfusion (hb.symm.trans (by assumption) : false = true) | (simp only [decide_eq_true_eq, decide_eq_false_iff_not, beq_iff_eq, bne_iff_ne, beq_eq_false_iff_ne, bne_eq_false_iff_eq, Bool.not_eq_true', Bool.not_eq_false', Int.not_lt, Int.not_le, ge_iff_le, gt_iff_lt, ne_eq, Classical.not_not] at hb; first | (exfalso; omega) | skip) | skip)))); (all_goals (try (conv => whnf)))
  all_goals first | (apply Fin.mk (m := [(0, some 0)]); (focus exact rfl); (all_goals ((try (show HlS _ _ [] _)); first | ((repeat' (first | exact SVsM.nil | exact avsm_nil | exact svm_same rfl | exact svm_ptr rfl | exact svm_sl rfl | exact svm_slnil rfl | exact svsm_scal rfl | exact svsm_scal (wsv_scal _) | exact svsm_scal (by assumption) | exact hls_nil | apply SVsM.cons | apply tvm_a | apply tvm_tup | apply avm_agg | apply avm_s | apply avsm_cons | exact trivial | (refine hls_skip rfl ?_) | apply hls_none | apply hls_row | (refine rowmt_mk rfl rfl rfl rfl ?_) | exact rowmt_nil rfl rfl)); done) | exact rfl))) | trace_state
theorem mayBoth (A : Nat) (hA : A < 4294967296) (L : Int) (l : List Mz) (N : Nat) (hN : l.length = N) (hN2 : N ≤ 1000000) : ∃ v : Bool,
    Fn Try.prog 13 [.agg [.int .u32 A, .int .i64 L, .sl 0 0 N]] [⟨false, 6, mzs l⟩] (· = ⟨.a (.s (.bool v)), [], []⟩) ∧
    Fn Try.prog 23 [.agg [.int .u32 A, .int .i64 L, .sl 0 0 N]] [⟨false, 6, mzs l⟩] (· = ⟨.a (.s (.bool v)), [], []⟩) :=
  ⟨mayV A L l, may_fn A hA L l N hN hN2, bmay_fn A hA L l N hN hN2⟩
set_option maxHeartbeats 1000000 in
set_option maxRecDepth 100000 in
theorem mays_big (A : Nat) (hA : A < 4294967296) (L : Int) (l : List Mz) (N : Nat) (hN : l.length = N) (hN2 : N ≤ 9223372036854775807) (h30 : 30 < N) (raw : Bool) (ls : List Int) (n : Nat) (hn : ls.length = n) (hr : n * 8 ≤ 140737488351232) (att : Int) (o : Mz) (a : Nat) (q : Int) (ha : a < 4294967296) :
    Fn Try.prog 6 [.agg [.int .u32 A, .int .i64 L, .sl 0 0 N], .s (.bool raw), .s (.sl 1 0 n), .s (.int .i64 att), .agg o.C, .s (.int .u32 a), .s (.int .i64 q)] [⟨false, 6, mzs l⟩, ⟨false, 1, isv .i64 ls⟩] (· = ⟨.a (.s (.bool true)), [], []⟩) := by
  have hsc := isv_scal .i64 ls
  have hsb := mzs_scal l
  have cfw := few_fn A L N (mzs l) hsb
  rw [decide_eq_false (by omega)] at cfw
  generalize mzs l = LB at *
  generalize isv .i64 ls = LL at *
  unfold Mz.C
  refine fn_of_vc mixed tys_ok _ _ Try.func6 (by kernel_rfl) rfl Try.ntmps6 (by rw [Try.results6]) rfl ?_; dsimp only [argTm, argHl, Nat.zero_add, Nat.reduceAdd, List.length_nil, List.length_cons]
  (repeat' ((conv => whnf); first | ((first | apply Br.mk | apply Gd.mk) <;> (intro hb; first | (exact absurd hb (by decide)) | exact Bool.noConfusion (hb.symm.trans (by assumption) : true = false) | exact Bool.noConfusion (hb.symm.trans (by assumption) : false = true) | (exfalso; revert hb; simp only [beq_self_eq_true, Bool.and_true, Bool.and_self, reduceCtorEq, false_implies, bne_self_eq_false, imp_false, not_true_eq_false, not_false_eq_true, Bool.true_eq_false, Bool.false_eq_true]; done) | (simp only [decide_eq_true_eq, decide_eq_false_iff_not, beq_iff_eq, bne_iff_ne, beq_eq_false_iff_ne, bne_eq_false_iff_eq, Bool.not_eq_true', Bool.not_eq_false', Int.not_lt, Int.not_le, ge_iff_le, gt_iff_lt, ne_eq, Classical.not_not] at hb; first | (exfalso; omega) | skip) | skip))  |  (refine Eqs.mk _ (eqt_ok _ _ rfl _ _ _ rfl) ?_)  |  (refine vcall_pure (f := 16) (awake15_fn) rfl ?_)  |  (refine vcall_det (f := 22) cfw [⟨_, 0⟩] [(_, ⟨false, 6, LB⟩)] rfl ⟨rfl, trivial⟩ ⟨rfl, rowM_ro hsb, trivial⟩ ⟨rfl, noUp⟩ ?_) | (with_reducible apply sd_draw; · kernel_rfl) | (apply Sd.mk; · first | exact rfl | trivial | omega | (repeat' apply And.intro) <;> first | exact rfl | exact Nat.le_of_ble_eq_true rfl | omega | decide) | ((with_reducible apply Vl.mk (α := Int)); · (first | (with_reducible exact bits_keep _ _ _ _) | ((rewrite [tdiv_pos]); (focus (first | exact wi64 (by omega) (by omega) | exact wu32 (by omega) (by omega) | exact wi32 (by omega) (by omega))); omega) | exact tmod_pos (by omega) | exact wi64 (by omega) (by omega) | exact wu32 (by omega) (by omega) | exact wu32' _ | exact wu8 (by omega) (by omega) | exact wu64 (by omega) (by omega) | exact wi32 (by omega) (by omega) | rfl)) | ((with_reducible first | apply Vl.mk (α := Bool) | apply Vl.mk (α := Nat) | apply Vl.mk (α := ByteArray) | apply Ge.mk (α := Row) | apply Ge.mk (α := SV) | apply Ge.mk (α := AV)); · exact rfl) | (refine And.intro rfl ?_) | ((with_reducible first | apply Vl.mk (α := List SV) | apply Vl.mk (α := Ef) | apply Vl.mk (α := TV) | apply Ge.mk (α := List SV) | apply Sg.mk | apply Sk.mk); · (first | exact setAll_eq rfl | exact sg_all _ rfl | exact sk_all _ rfl rfl | ((first | apply sg_fc | apply sk_fc | (apply fc_eq; (conv => arg 1; whnf); apply fc_some) | apply fc_eq); (repeat' (first | exact fc_ren (wsv_scal _) | exact fc_ren (by assumption) | ((conv => arg 1; whnf); first | exact fc_nil | apply fc_cons | exact fc_int | exact fc_bool | exact fc_n | exact fc_ns | exact fc_ptr | exact fc_sl | exact fc_str | exact fc_unk | exact fc_fn | apply fc_s | apply fc_agg | apply fc_ta | apply fc_tup | exact fc_an | apply fc_ac | exact fc_tu | exact fc_nat | exact fc_bo | exact fc_none | apply fc_some | apply fc_pair | apply fc_row | apply fc_ef))); (all_goals exact rfl)) | ((dsimp only [Res.ef, renT, renA, renS, renN, nwN, upN, renRow, List.map_cons, List.map_nil, List.length_cons, List.length_nil]); first | done | exact rfl) | (dsimp only [setAll, List.set_cons_zero, List.set_cons_succ, List.cons_append, List.nil_append]; exact rfl) | exact rfl)) | ((first | apply Br.mk | apply Gd.mk) <;> (intro hb; first | (exact absurd hb (by decide)) | exact Bool.noConfusion (hb.symm.trans (by assumption) : true = false) | exact Bool.noConfusion (hb.symm.trans (by assumption) : false = true) | (simp only [decide_eq_true_eq, decide_eq_false_iff_not, beq_iff_eq, bne_iff_ne, beq_eq_false_iff_ne, bne_eq_false_iff_eq, Bool.not_eq_true', Bool.not_eq_false', Int.not_lt, Int.not_le, ge_iff_le, gt_iff_lt, ne_eq, Classical.not_not] at hb; first | (exfalso; omega) | skip) | skip)))); (all_goals (try (conv => whnf)))
  all_goals first | (apply Fin.mk (m := [(0, some 0), (1, some 1)]); (focus exact rfl); (all_goals ((try (show HlS _ _ [] _)); first | ((repeat' (first | exact SVsM.nil | exact avsm_nil | exact svm_same rfl | exact svm_ptr rfl | exact svm_sl rfl | exact svm_slnil rfl | exact svsm_scal rfl | exact svsm_scal (wsv_scal _) | exact svsm_scal (by assumption) | exact hls_nil | apply SVsM.cons | apply tvm_a | apply tvm_tup | apply avm_agg | apply avm_s | apply avsm_cons | exact trivial | (refine hls_skip rfl ?_) | apply hls_none | apply hls_row | (refine rowmt_mk rfl rfl rfl rfl ?_) | exact rowmt_nil rfl rfl)); done) | exact rfl))) | trace_state
set_option maxHeartbeats 1000000 in
set_option maxRecDepth 100000 in
theorem mays_raw (A : Nat) (hA : A < 4294967296) (L : Int) (l : List Mz) (N : Nat) (hN : l.length = N) (hN2 : N ≤ 30) (ls : List Int) (n : Nat) (hn : ls.length = n) (hr : n * 8 ≤ 140737488351232) (att : Int) (o : Mz) (a : Nat) (q : Int) (ha : a < 4294967296) :
    Fn Try.prog 6 [.agg [.int .u32 A, .int .i64 L, .sl 0 0 N], .s (.bool true), .s (.sl 1 0 n), .s (.int .i64 att), .agg o.C, .s (.int .u32 a), .s (.int .i64 q)] [⟨false, 6, mzs l⟩, ⟨false, 1, isv .i64 ls⟩] (· = ⟨.a (.s (.bool true)), [], []⟩) := by
  have hsc := isv_scal .i64 ls
  have hsb := mzs_scal l
  have cfw := few_fn A L N (mzs l) hsb
  rw [decide_eq_true (by omega)] at cfw
  obtain ⟨v, cm, crm⟩ := mayBoth A hA L l N hN (by omega)
  have cf := frame_fn A hA L N (mzs l) hsb
  have crf := rframe_fn A hA L N (mzs l) hsb
  generalize mzs l = LB at *
  generalize isv .i64 ls = LL at *
  unfold Mz.C
  refine fn_of_vc mixed tys_ok _ _ Try.func6 (by kernel_rfl) rfl Try.ntmps6 (by rw [Try.results6]) rfl ?_; dsimp only [argTm, argHl, Nat.zero_add, Nat.reduceAdd, List.length_nil, List.length_cons]
  (repeat' ((conv => whnf); first | ((first | apply Br.mk | apply Gd.mk) <;> (intro hb; first | (exact absurd hb (by decide)) | exact Bool.noConfusion (hb.symm.trans (by assumption) : true = false) | exact Bool.noConfusion (hb.symm.trans (by assumption) : false = true) | (exfalso; revert hb; simp only [beq_self_eq_true, Bool.and_true, Bool.and_self, reduceCtorEq, false_implies, bne_self_eq_false, imp_false, not_true_eq_false, not_false_eq_true, Bool.true_eq_false, Bool.false_eq_true]; done) | (simp only [decide_eq_true_eq, decide_eq_false_iff_not, beq_iff_eq, bne_iff_ne, beq_eq_false_iff_ne, bne_eq_false_iff_eq, Bool.not_eq_true', Bool.not_eq_false', Int.not_lt, Int.not_le, ge_iff_le, gt_iff_lt, ne_eq, Classical.not_not] at hb; first | (exfalso; omega) | skip) | skip))  |  (refine Eqs.mk _ (eqt_ok _ _ rfl _ _ _ rfl) ?_)  |  (refine vcall_pure (f := 16) (awake15_fn) rfl ?_)  |  (refine vcall_det (f := 22) cfw [⟨_, 0⟩] [(_, ⟨false, 6, LB⟩)] rfl ⟨rfl, trivial⟩ ⟨rfl, rowM_ro hsb, trivial⟩ ⟨rfl, noUp⟩ ?_)  |  (refine vcall_det (f := 13) cm [⟨_, 0⟩] [(_, ⟨false, 6, LB⟩)] rfl ⟨rfl, trivial⟩ ⟨rfl, rowM_ro hsb, trivial⟩ ⟨rfl, noUp⟩ ?_)  |  (refine vcall_det (f := 23) crm [⟨_, 0⟩] [(_, ⟨false, 6, LB⟩)] rfl ⟨rfl, trivial⟩ ⟨rfl, rowM_ro hsb, trivial⟩ ⟨rfl, noUp⟩ ?_)  |  (refine vcall_det (f := 20) cf [⟨_, 0⟩] [(_, ⟨false, 6, LB⟩)] rfl ⟨rfl, trivial⟩ ⟨rfl, rowM_ro hsb, trivial⟩ ⟨rfl, noUp⟩ ?_)  |  (refine vcall_det (f := 21) crf [⟨_, 0⟩] [(_, ⟨false, 6, LB⟩)] rfl ⟨rfl, trivial⟩ ⟨rfl, rowM_ro hsb, trivial⟩ ⟨rfl, noUp⟩ ?_) | (with_reducible apply sd_draw; · kernel_rfl) | (apply Sd.mk; · first | exact rfl | trivial | omega | (repeat' apply And.intro) <;> first | exact rfl | exact Nat.le_of_ble_eq_true rfl | omega | decide) | ((with_reducible apply Vl.mk (α := Int)); · (first | (with_reducible exact bits_keep _ _ _ _) | ((rewrite [tdiv_pos]); (focus (first | exact wi64 (by omega) (by omega) | exact wu32 (by omega) (by omega) | exact wi32 (by omega) (by omega))); omega) | exact tmod_pos (by omega) | exact wi64 (by omega) (by omega) | exact wu32 (by omega) (by omega) | exact wu32' _ | exact wu8 (by omega) (by omega) | exact wu64 (by omega) (by omega) | exact wi32 (by omega) (by omega) | rfl)) | ((with_reducible first | apply Vl.mk (α := Bool) | apply Vl.mk (α := Nat) | apply Vl.mk (α := ByteArray) | apply Ge.mk (α := Row) | apply Ge.mk (α := SV) | apply Ge.mk (α := AV)); · exact rfl) | (refine And.intro rfl ?_) | ((with_reducible first | apply Vl.mk (α := List SV) | apply Vl.mk (α := Ef) | apply Vl.mk (α := TV) | apply Ge.mk (α := List SV) | apply Sg.mk | apply Sk.mk); · (first | exact setAll_eq rfl | exact sg_all _ rfl | exact sk_all _ rfl rfl | ((first | apply sg_fc | apply sk_fc | (apply fc_eq; (conv => arg 1; whnf); apply fc_some) | apply fc_eq); (repeat' (first | exact fc_ren (wsv_scal _) | exact fc_ren (by assumption) | ((conv => arg 1; whnf); first | exact fc_nil | apply fc_cons | exact fc_int | exact fc_bool | exact fc_n | exact fc_ns | exact fc_ptr | exact fc_sl | exact fc_str | exact fc_unk | exact fc_fn | apply fc_s | apply fc_agg | apply fc_ta | apply fc_tup | exact fc_an | apply fc_ac | exact fc_tu | exact fc_nat | exact fc_bo | exact fc_none | apply fc_some | apply fc_pair | apply fc_row | apply fc_ef))); (all_goals exact rfl)) | ((dsimp only [Res.ef, renT, renA, renS, renN, nwN, upN, renRow, List.map_cons, List.map_nil, List.length_cons, List.length_nil]); first | done | exact rfl) | (dsimp only [setAll, List.set_cons_zero, List.set_cons_succ, List.cons_append, List.nil_append]; exact rfl) | exact rfl)) | ((first | apply Br.mk | apply Gd.mk) <;> (intro hb; first | (exact absurd hb (by decide)) | exact Bool.noConfusion (hb.symm.trans (by assumption) : true = false) | exact Bool.noConfusion (hb.symm.trans (by assumption) : false = true) | (simp only [decide_eq_true_eq, decide_eq_false_iff_not, beq_iff_eq, bne_iff_ne, beq_eq_false_iff_ne, bne_eq_false_iff_eq, Bool.not_eq_true', Bool.not_eq_false', Int.not_lt, Int.not_le, ge_iff_le, gt_iff_lt, ne_eq, Classical.not_not] at hb; first | (exfalso; omega) | skip) | skip)))); (all_goals (try (conv => whnf)))
  all_goals first | (apply Fin.mk (m := [(0, some 0), (1, some 1)]); (focus exact rfl); (all_goals ((try (show HlS _ _ [] _)); first | ((repeat' (first | exact SVsM.nil | exact avsm_nil | exact svm_same rfl | exact svm_ptr rfl | exact svm_sl rfl | exact svm_slnil rfl | exact svsm_scal rfl | exact svsm_scal (wsv_scal _) | exact svsm_scal (by assumption) | exact hls_nil | apply SVsM.cons | apply tvm_a | apply tvm_tup | apply avm_agg | apply avm_s | apply avsm_cons | exact trivial | (refine hls_skip rfl ?_) | apply hls_none | apply hls_row | (refine rowmt_mk rfl rfl rfl rfl ?_) | exact rowmt_nil rfl rfl)); done) | exact rfl))) | trace_state
set_option maxHeartbeats 1000000 in
set_option maxRecDepth 100000 in
theorem mays_made_no0 (A : Nat) (hA : A < 4294967296) (L : Int) (l : List Mz) (N : Nat) (hN : l.length = N) (hN2 : N ≤ 30) (ls : List Int) (n : Nat) (hn : ls.length = n) (hr : n * 8 ≤ 140737488351232) (att : Int) (o : Mz) (a : Nat) (q : Int) (ha : a < 4294967296) (kN : Nat) (hk : att % (((blL (cpM 64 (codeL ls)) 64 (a % 256 / 4 * 4) 16).length : Int) + 1) = (kN : Int)) (hkK : ¬ kN < (blL (cpM 64 (codeL ls)) 64 (a % 256 / 4 * 4) 16).length) (h8 : bits .and .i64 q 8 ≠ 8) :
    Fn Try.prog 6 [.agg [.int .u32 A, .int .i64 L, .sl 0 0 N], .s (.bool false), .s (.sl 1 0 n), .s (.int .i64 att), .agg o.C, .s (.int .u32 a), .s (.int .i64 q)] [⟨false, 6, mzs l⟩, ⟨false, 1, isv .i64 ls⟩] (· = ⟨.a (.s (.bool true)), [], []⟩) := by
  have hcode := code_fn ls n hn hr
  have hyl : (codeL ls).length = n := by rw [codeL_len, hn]
  have hx := cpM_len 64 (codeL ls)
  have hxr := cpM_lt 64 (codeL ls) (codeL_lt ls)
  have hset := cpM_set 64 (codeL ls)
  have hsk := sk_take (codeL ls) n hyl
  have hsy := wsv_scal (codeL ls)
  have q1 : IntKind.u32.wrap ((a : Int) % 256 / 4 * 4) = ((a % 256 / 4 * 4 : Nat) : Int) := by rw [wu32 (by omega) (by omega)]; omega
  have hf := blL_facts (cpM 64 (codeL ls)) 64 (a % 256 / 4 * 4) 16 hxr
  have hAl : blA 64 (a % 256 / 4 * 4) 16 < 4294967296 := by unfold blA; split <;> omega
  obtain ⟨K, hK⟩ : ∃ K, (blL (cpM 64 (codeL ls)) 64 (a % 256 / 4 * 4) 16).length = K := ⟨_, rfl⟩
  have crb := rbuildA_fn (cpM 64 (codeL ls)) 64 (a % 256 / 4 * 4) 16 hx (by omega) (by omega) hxr K hK
  rw [hK] at hkK hk hf
  have hK16 := hf.1
  clear hf
  rw [← mzs_mcs] at crb
  obtain ⟨l2, hl2⟩ : ∃ l2, (blL (cpM 64 (codeL ls)) 64 (a % 256 / 4 * 4) 16).map Mi.z = l2 := ⟨_, rfl⟩
  rw [hl2] at crb
  have hlen2 : l2.length = K := by rw [← hl2, List.length_map, hK]
  clear hl2 hK
  generalize blA 64 (a % 256 / 4 * 4) 16 = B at *
  have cr1 := rnd_fn att ((K : Int) + 1) (by omega) (by omega)
  rw [hk] at cr1
  have q2 : IntKind.i64.wrap ((K : Int) + 1) = (K : Int) + 1 := wi64 (by omega) (by omega)
  have cr4 := rnd_fn q 4 (by omega) (by omega)
  have cr3 := rnd_fn q 3 (by omega) (by omega)
  have hr3 : 0 ≤ q % 3 ∧ q % 3 < 3 := by omega
  have x1 : 0 + ((kN : Nat) : Int).toNat * ty39.size = kN * 6 := by show 0 + ((kN : Nat) : Int).toNat * 6 = _; omega
  have x2 : 0 + 0 + ((kN : Nat) : Int).toNat * ty39.size = kN * 6 := by show 0 + 0 + ((kN : Nat) : Int).toNat * 6 = _; omega
  generalize q % 3 = r3 at *
  generalize q % 4 = r4 at *
  generalize hb8 : bits .and .i64 q 8 = b8 at *
  have q3 : IntKind.i64.wrap ((K : Int) + r3) = (K : Int) + r3 := wi64 (by omega) (by omega)
  obtain ⟨v, cm, crm⟩ := mayBoth B hAl (K : Int) l2 K hlen2 (by omega)
  have hsF := mzs_scal l2
  have cf := frame_fn B hAl (K : Int) K (mzs l2) hsF
  have crf := rframe_fn B hAl (K : Int) K (mzs l2) hsF
  have hsc := isv_scal .i64 ls
  have hsb := mzs_scal l
  have cfw := few_fn A L N (mzs l) hsb
  rw [decide_eq_true (by omega)] at cfw
  have hsm := wsv_scal (cpM 64 (codeL ls))
  have hs2c := mzs_scal l2
  generalize wsv (cpM 64 (codeL ls)) = MM at *
  generalize hYT : wsv ((codeL ls).take 64) = YT at *
  generalize wsv (codeL ls) = YY at *
  generalize mzs l = LB at *
  generalize hLF : mzs l2 = LF at *
  generalize hLL : isv .i64 ls = LL at *
  unfold Mz.C
  refine fn_of_vc mixed tys_ok _ _ Try.func6 (by kernel_rfl) rfl Try.ntmps6 (by rw [Try.results6]) rfl ?_; dsimp only [argTm, argHl, Nat.zero_add, Nat.reduceAdd, List.length_nil, List.length_cons]
  (repeat' ((conv => whnf); first | ((with_reducible apply Vl.mk (α := Int)); · with_reducible first | exact q1 | exact q2 | exact q3 | exact hb8)  |  ((first | apply Br.mk | apply Gd.mk) <;> (intro hb; first | (exact absurd hb (by decide)) | exact Bool.noConfusion (hb.symm.trans (by assumption) : true = false) | exact Bool.noConfusion (hb.symm.trans (by assumption) : false = true) | (exfalso; revert hb; simp only [beq_self_eq_true, Bool.and_true, Bool.and_self, reduceCtorEq, false_implies, bne_self_eq_false, imp_false, not_true_eq_false, not_false_eq_true, Bool.true_eq_false, Bool.false_eq_true]; done) | (simp only [decide_eq_true_eq, decide_eq_false_iff_not, beq_iff_eq, bne_iff_ne, beq_eq_false_iff_ne, bne_eq_false_iff_eq, Bool.not_eq_true', Bool.not_eq_false', Int.not_lt, Int.not_le, ge_iff_le, gt_iff_lt, ne_eq, Classical.not_not] at hb; first | (exfalso; omega) | skip) | skip))  |  (refine Eqs.mk _ (eqt_ok _ _ rfl _ _ _ rfl) ?_)  |  (refine vcall_pure (f := 16) (awake15_fn) rfl ?_)  |  (refine vcall_det (f := 22) cfw [⟨_, 0⟩] [(_, ⟨false, 6, LB⟩)] rfl ⟨rfl, trivial⟩ ⟨rfl, rowM_ro hsb, trivial⟩ ⟨rfl, noUp⟩ ?_)  |  (refine vcall_det (f := 8) new2_fn [] [] rfl trivial trivial ⟨rfl, noUp⟩ ?_)  |  (refine vcall_det (f := 17) hcode [⟨_, 0⟩] [(_, ⟨false, 1, LL⟩)] rfl ⟨rfl, trivial⟩ ⟨rfl, rowM_ro hsc, trivial⟩ ⟨rfl, noUp⟩ ?_)  |  (apply Sk.mk; · exact hsk)  |  (apply Sd.mk; · first | (refine ⟨rfl, ?_⟩; show 0 + YT.length ≤ (wsv (zer 64)).length; rw [hsk.1]; show 0 + min n 64 * 1 ≤ 64; omega))  |  ((with_reducible apply Vl.mk (α := Nat)); · first | with_reducible exact x1 | exact x2)  |  ((with_reducible apply Vl.mk (α := List SV)); · first | exact hset)  |  (refine vcall_det (f := 19) crb [⟨_, 0⟩] [(_, ⟨true, 1, MM⟩)] rfl ⟨rfl, trivial⟩ ⟨rfl, rowM_ro hsm, trivial⟩ ⟨rfl, noUp⟩ ?_)  |  (refine vcall_pure (f := 7) (cr1) rfl ?_)  |  (refine vcall_pure (f := 7) (cr4) rfl ?_)  |  (refine vcall_pure (f := 7) (cr3) rfl ?_)  |  (refine vcall_det (f := 13) cm [⟨_, 0⟩] [(_, ⟨true, 6, LF⟩)] rfl ⟨rfl, trivial⟩ ⟨rfl, rowM_ro hsF, trivial⟩ ⟨rfl, noUp⟩ ?_)  |  (refine vcall_det (f := 23) crm [⟨_, 0⟩] [(_, ⟨true, 6, LF⟩)] rfl ⟨rfl, trivial⟩ ⟨rfl, rowM_ro hsF, trivial⟩ ⟨rfl, noUp⟩ ?_)  |  (refine vcall_det (f := 20) cf [⟨_, 0⟩] [(_, ⟨true, 6, LF⟩)] rfl ⟨rfl, trivial⟩ ⟨rfl, rowM_ro hsF, trivial⟩ ⟨rfl, noUp⟩ ?_)  |  (refine vcall_det (f := 21) crf [⟨_, 0⟩] [(_, ⟨true, 6, LF⟩)] rfl ⟨rfl, trivial⟩ ⟨rfl, rowM_ro hsF, trivial⟩ ⟨rfl, noUp⟩ ?_) | (with_reducible apply sd_draw; · kernel_rfl) | (apply Sd.mk; · first | exact rfl | trivial | omega | (repeat' apply And.intro) <;> first | exact rfl | exact Nat.le_of_ble_eq_true rfl | omega | decide) | ((with_reducible apply Vl.mk (α := Int)); · (first | (with_reducible exact bits_keep _ _ _ _) | ((rewrite [tdiv_pos]); (focus (first | exact wi64 (by omega) (by omega) | exact wu32 (by omega) (by omega) | exact wi32 (by omega) (by omega))); omega) | exact tmod_pos (by omega) | exact wi64 (by omega) (by omega) | exact wu32 (by omega) (by omega) | exact wu32' _ | exact wu8 (by omega) (by omega) | exact wu64 (by omega) (by omega) | exact wi32 (by omega) (by omega) | rfl)) | ((with_reducible first | apply Vl.mk (α := Bool) | apply Vl.mk (α := Nat) | apply Vl.mk (α := ByteArray) | apply Ge.mk (α := Row) | apply Ge.mk (α := SV) | apply Ge.mk (α := AV)); · exact rfl) | (refine And.intro rfl ?_) | ((with_reducible first | apply Vl.mk (α := List SV) | apply Vl.mk (α := Ef) | apply Vl.mk (α := TV) | apply Ge.mk (α := List SV) | apply Sg.mk | apply Sk.mk); · (first | exact setAll_eq rfl | exact sg_all _ rfl | exact sk_all _ rfl rfl | ((first | apply sg_fc | apply sk_fc | (apply fc_eq; (conv => arg 1; whnf); apply fc_some) | apply fc_eq); (repeat' (first | exact fc_ren (wsv_scal _) | exact fc_ren (by assumption) | ((conv => arg 1; whnf); first | exact fc_nil | apply fc_cons | exact fc_int | exact fc_bool | exact fc_n | exact fc_ns | exact fc_ptr | exact fc_sl | exact fc_str | exact fc_unk | exact fc_fn | apply fc_s | apply fc_agg | apply fc_ta | apply fc_tup | exact fc_an | apply fc_ac | exact fc_tu | exact fc_nat | exact fc_bo | exact fc_none | apply fc_some | apply fc_pair | apply fc_row | apply fc_ef))); (all_goals exact rfl)) | ((dsimp only [Res.ef, renT, renA, renS, renN, nwN, upN, renRow, List.map_cons, List.map_nil, List.length_cons, List.length_nil]); first | done | exact rfl) | (dsimp only [setAll, List.set_cons_zero, List.set_cons_succ, List.cons_append, List.nil_append]; exact rfl) | exact rfl)) | ((first | apply Br.mk | apply Gd.mk) <;> (intro hb; first | (exact absurd hb (by decide)) | exact Bool.noConfusion (hb.symm.trans (by assumption) : true = false) | exact Bool.noConfusion (hb.symm.trans (by assumption) : false = true) | (simp only [decide_eq_true_eq, decide_eq_false_iff_not, beq_iff_eq, bne_iff_ne, beq_eq_false_iff_ne, bne_eq_false_iff_eq, Bool.not_eq_true', Bool.not_eq_false', Int.not_lt, Int.not_le, ge_iff_le, gt_iff_lt, ne_eq, Classical.not_not] at hb; first | (exfalso; omega) | skip) | skip)))); (all_goals (try (conv => whnf)))
  all_goals first | (apply Fin.mk (m := [(0, some 0), (1, some 1)]); (focus exact rfl); (all_goals ((try (show HlS _ _ [] _)); first | ((repeat' (first | exact SVsM.nil | exact avsm_nil | exact svm_same rfl | exact svm_ptr rfl | exact svm_sl rfl | exact svm_slnil rfl | exact svsm_scal rfl | exact svsm_scal (wsv_scal _) | exact svsm_scal (by assumption) | exact hls_nil | apply SVsM.cons | apply tvm_a | apply tvm_tup | apply avm_agg | apply avm_s | apply avsm_cons | exact trivial | (refine hls_skip rfl ?_) | apply hls_none | apply hls_row | (refine rowmt_mk rfl rfl rfl rfl ?_) | exact rowmt_nil rfl rfl)); done) | exact rfl))) | trace_state
set_option maxHeartbeats 1000000 in
set_option maxRecDepth 100000 in
theorem mays_made_no1 (A : Nat) (hA : A < 4294967296) (L : Int) (l : List Mz) (N : Nat) (hN : l.length = N) (hN2 : N ≤ 30) (ls : List Int) (n : Nat) (hn : ls.length = n) (hr : n * 8 ≤ 140737488351232) (att : Int) (o : Mz) (a : Nat) (q : Int) (ha : a < 4294967296) (kN : Nat) (hk : att % (((blL (cpM 64 (codeL ls)) 64 (a % 256 / 4 * 4) 16).length : Int) + 1) = (kN : Int)) (hkK : ¬ kN < (blL (cpM 64 (codeL ls)) 64 (a % 256 / 4 * 4) 16).length) (h8 : bits .and .i64 q 8 = 8) :
    Fn Try.prog 6 [.agg [.int .u32 A, .int .i64 L, .sl 0 0 N], .s (.bool false), .s (.sl 1 0 n), .s (.int .i64 att), .agg o.C, .s (.int .u32 a), .s (.int .i64 q)] [⟨false, 6, mzs l⟩, ⟨false, 1, isv .i64 ls⟩] (· = ⟨.a (.s (.bool true)), [], []⟩) := by
  have hcode := code_fn ls n hn hr
  have hyl : (codeL ls).length = n := by rw [codeL_len, hn]
  have hx := cpM_len 64 (codeL ls)
  have hxr := cpM_lt 64 (codeL ls) (codeL_lt ls)
  have hset := cpM_set 64 (codeL ls)
  have hsk := sk_take (codeL ls) n hyl
  have hsy := wsv_scal (codeL ls)
  have q1 : IntKind.u32.wrap ((a : Int) % 256 / 4 * 4) = ((a % 256 / 4 * 4 : Nat) : Int) := by rw [wu32 (by omega) (by omega)]; omega
  have hf := blL_facts (cpM 64 (codeL ls)) 64 (a % 256 / 4 * 4) 16 hxr
  have hAl : blA 64 (a % 256 / 4 * 4) 16 < 4294967296 := by unfold blA; split <;> omega
  obtain ⟨K, hK⟩ : ∃ K, (blL (cpM 64 (codeL ls)) 64 (a % 256 / 4 * 4) 16).length = K := ⟨_, rfl⟩
  have crb := rbuildA_fn (cpM 64 (codeL ls)) 64 (a % 256 / 4 * 4) 16 hx (by omega) (by omega) hxr K hK
  rw [hK] at hkK hk hf
  have hK16 := hf.1
  clear hf
  rw [← mzs_mcs] at crb
  obtain ⟨l2, hl2⟩ : ∃ l2, (blL (cpM 64 (codeL ls)) 64 (a % 256 / 4 * 4) 16).map Mi.z = l2 := ⟨_, rfl⟩
  rw [hl2] at crb
  have hlen2 : l2.length = K := by rw [← hl2, List.length_map, hK]
  clear hl2 hK
  generalize blA 64 (a % 256 / 4 * 4) 16 = B at *
  have cr1 := rnd_fn att ((K : Int) + 1) (by omega) (by omega)
  rw [hk] at cr1
  have q2 : IntKind.i64.wrap ((K : Int) + 1) = (K : Int) + 1 := wi64 (by omega) (by omega)
  have cr4 := rnd_fn q 4 (by omega) (by omega)
  have cr3 := rnd_fn q 3 (by omega) (by omega)
  have hr3 : 0 ≤ q % 3 ∧ q % 3 < 3 := by omega
  have x1 : 0 + ((kN : Nat) : Int).toNat * ty39.size = kN * 6 := by show 0 + ((kN : Nat) : Int).toNat * 6 = _; omega
  have x2 : 0 + 0 + ((kN : Nat) : Int).toNat * ty39.size = kN * 6 := by show 0 + 0 + ((kN : Nat) : Int).toNat * 6 = _; omega
  generalize q % 3 = r3 at *
  generalize q % 4 = r4 at *
  generalize hb8 : bits .and .i64 q 8 = b8 at *
  have q3 : IntKind.i64.wrap ((K : Int) + r3) = (K : Int) + r3 := wi64 (by omega) (by omega)
  obtain ⟨v, cm, crm⟩ := mayBoth B hAl ((K : Int) + r3) l2 K hlen2 (by omega)
  have hsF := mzs_scal l2
  have cf := frame_fn B hAl ((K : Int) + r3) K (mzs l2) hsF
  have crf := rframe_fn B hAl ((K : Int) + r3) K (mzs l2) hsF
  have hsc := isv_scal .i64 ls
  have hsb := mzs_scal l
  have cfw := few_fn A L N (mzs l) hsb
  rw [decide_eq_true (by omega)] at cfw
  have hsm := wsv_scal (cpM 64 (codeL ls))
  have hs2c := mzs_scal l2
  generalize wsv (cpM 64 (codeL ls)) = MM at *
  generalize hYT : wsv ((codeL ls).take 64) = YT at *
  generalize wsv (codeL ls) = YY at *
  generalize mzs l = LB at *
  generalize hLF : mzs l2 = LF at *
  generalize hLL : isv .i64 ls = LL at *
  unfold Mz.C
  refine fn_of_vc mixed tys_ok _ _ Try.func6 (by kernel_rfl) rfl Try.ntmps6 (by rw [Try.results6]) rfl ?_; dsimp only [argTm, argHl, Nat.zero_add, Nat.reduceAdd, List.length_nil, List.length_cons]
  (repeat' ((conv => whnf); first | ((with_reducible apply Vl.mk (α := Int)); · with_reducible first | exact q1 | exact q2 | exact q3 | exact hb8)  |  ((first | apply Br.mk | apply Gd.mk) <;> (intro hb; first | (exact absurd hb (by decide)) | exact Bool.noConfusion (hb.symm.trans (by assumption) : true = false) | exact Bool.noConfusion (hb.symm.trans (by assumption) : false = true) | (exfalso; revert hb; simp only [beq_self_eq_true, Bool.and_true, Bool.and_self, reduceCtorEq, false_implies, bne_self_eq_false, imp_false, not_true_eq_false, not_false_eq_true, Bool.true_eq_false, Bool.false_eq_true]; done) | (simp only [decide_eq_true_eq, decide_eq_false_iff_not, beq_iff_eq, bne_iff_ne, beq_eq_false_iff_ne, bne_eq_false_iff_eq, Bool.not_eq_true', Bool.not_eq_false', Int.not_lt, Int.not_le, ge_iff_le, gt_iff_lt, ne_eq, Classical.not_not] at hb; first | (exfalso; omega) | skip) | skip))  |  (refine Eqs.mk _ (eqt_ok _ _ rfl _ _ _ rfl) ?_)  |  (refine vcall_pure (f := 16) (awake15_fn) rfl ?_)  |  (refine vcall_det (f := 22) cfw [⟨_, 0⟩] [(_, ⟨false, 6, LB⟩)] rfl ⟨rfl, trivial⟩ ⟨rfl, rowM_ro hsb, trivial⟩ ⟨rfl, noUp⟩ ?_)  |  (refine vcall_det (f := 8) new2_fn [] [] rfl trivial trivial ⟨rfl, noUp⟩ ?_)  |  (refine vcall_det (f := 17) hcode [⟨_, 0⟩] [(_, ⟨false, 1, LL⟩)] rfl ⟨rfl, trivial⟩ ⟨rfl, rowM_ro hsc, trivial⟩ ⟨rfl, noUp⟩ ?_)  |  (apply Sk.mk; · exact hsk)  |  (apply Sd.mk; · first | (refine ⟨rfl, ?_⟩; show 0 + YT.length ≤ (wsv (zer 64)).length; rw [hsk.1]; show 0 + min n 64 * 1 ≤ 64; omega))  |  ((with_reducible apply Vl.mk (α := Nat)); · first | with_reducible exact x1 | exact x2)  |  ((with_reducible apply Vl.mk (α := List SV)); · first | exact hset)  |  (refine vcall_det (f := 19) crb [⟨_, 0⟩] [(_, ⟨true, 1, MM⟩)] rfl ⟨rfl, trivial⟩ ⟨rfl, rowM_ro hsm, trivial⟩ ⟨rfl, noUp⟩ ?_)  |  (refine vcall_pure (f := 7) (cr1) rfl ?_)  |  (refine vcall_pure (f := 7) (cr4) rfl ?_)  |  (refine vcall_pure (f := 7) (cr3) rfl ?_)  |  (refine vcall_det (f := 13) cm [⟨_, 0⟩] [(_, ⟨true, 6, LF⟩)] rfl ⟨rfl, trivial⟩ ⟨rfl, rowM_ro hsF, trivial⟩ ⟨rfl, noUp⟩ ?_)  |  (refine vcall_det (f := 23) crm [⟨_, 0⟩] [(_, ⟨true, 6, LF⟩)] rfl ⟨rfl, trivial⟩ ⟨rfl, rowM_ro hsF, trivial⟩ ⟨rfl, noUp⟩ ?_)  |  (refine vcall_det (f := 20) cf [⟨_, 0⟩] [(_, ⟨true, 6, LF⟩)] rfl ⟨rfl, trivial⟩ ⟨rfl, rowM_ro hsF, trivial⟩ ⟨rfl, noUp⟩ ?_)  |  (refine vcall_det (f := 21) crf [⟨_, 0⟩] [(_, ⟨true, 6, LF⟩)] rfl ⟨rfl, trivial⟩ ⟨rfl, rowM_ro hsF, trivial⟩ ⟨rfl, noUp⟩ ?_) | (with_reducible apply sd_draw; · kernel_rfl) | (apply Sd.mk; · first | exact rfl | trivial | omega | (repeat' apply And.intro) <;> first | exact rfl | exact Nat.le_of_ble_eq_true rfl | omega | decide) | ((with_reducible apply Vl.mk (α := Int)); · (first | (with_reducible exact bits_keep _ _ _ _) | ((rewrite [tdiv_pos]); (focus (first | exact wi64 (by omega) (by omega) | exact wu32 (by omega) (by omega) | exact wi32 (by omega) (by omega))); omega) | exact tmod_pos (by omega) | exact wi64 (by omega) (by omega) | exact wu32 (by omega) (by omega) | exact wu32' _ | exact wu8 (by omega) (by omega) | exact wu64 (by omega) (by omega) | exact wi32 (by omega) (by omega) | rfl)) | ((with_reducible first | apply Vl.mk (α := Bool) | apply Vl.mk (α := Nat) | apply Vl.mk (α := ByteArray) | apply Ge.mk (α := Row) | apply Ge.mk (α := SV) | apply Ge.mk (α := AV)); · exact rfl) | (refine And.intro rfl ?_) | ((with_reducible first | apply Vl.mk (α := List SV) | apply Vl.mk (α := Ef) | apply Vl.mk (α := TV) | apply Ge.mk (α := List SV) | apply Sg.mk | apply Sk.mk); · (first | exact setAll_eq rfl | exact sg_all _ rfl | exact sk_all _ rfl rfl | ((first | apply sg_fc | apply sk_fc | (apply fc_eq; (conv => arg 1; whnf); apply fc_some) | apply fc_eq); (repeat' (first | exact fc_ren (wsv_scal _) | exact fc_ren (by assumption) | ((conv => arg 1; whnf); first | exact fc_nil | apply fc_cons | exact fc_int | exact fc_bool | exact fc_n | exact fc_ns | exact fc_ptr | exact fc_sl | exact fc_str | exact fc_unk | exact fc_fn | apply fc_s | apply fc_agg | apply fc_ta | apply fc_tup | exact fc_an | apply fc_ac | exact fc_tu | exact fc_nat | exact fc_bo | exact fc_none | apply fc_some | apply fc_pair | apply fc_row | apply fc_ef))); (all_goals exact rfl)) | ((dsimp only [Res.ef, renT, renA, renS, renN, nwN, upN, renRow, List.map_cons, List.map_nil, List.length_cons, List.length_nil]); first | done | exact rfl) | (dsimp only [setAll, List.set_cons_zero, List.set_cons_succ, List.cons_append, List.nil_append]; exact rfl) | exact rfl)) | ((first | apply Br.mk | apply Gd.mk) <;> (intro hb; first | (exact absurd hb (by decide)) | exact Bool.noConfusion (hb.symm.trans (by assumption) : true = false) | exact Bool.noConfusion (hb.symm.trans (by assumption) : false = true) | (simp only [decide_eq_true_eq, decide_eq_false_iff_not, beq_iff_eq, bne_iff_ne, beq_eq_false_iff_ne, bne_eq_false_iff_eq, Bool.not_eq_true', Bool.not_eq_false', Int.not_lt, Int.not_le, ge_iff_le, gt_iff_lt, ne_eq, Classical.not_not] at hb; first | (exfalso; omega) | skip) | skip)))); (all_goals (try (conv => whnf)))
  all_goals first | (apply Fin.mk (m := [(0, some 0), (1, some 1)]); (focus exact rfl); (all_goals ((try (show HlS _ _ [] _)); first | ((repeat' (first | exact SVsM.nil | exact avsm_nil | exact svm_same rfl | exact svm_ptr rfl | exact svm_sl rfl | exact svm_slnil rfl | exact svsm_scal rfl | exact svsm_scal (wsv_scal _) | exact svsm_scal (by assumption) | exact hls_nil | apply SVsM.cons | apply tvm_a | apply tvm_tup | apply avm_agg | apply avm_s | apply avsm_cons | exact trivial | (refine hls_skip rfl ?_) | apply hls_none | apply hls_row | (refine rowmt_mk rfl rfl rfl rfl ?_) | exact rowmt_nil rfl rfl)); done) | exact rfl))) | trace_state
set_option maxHeartbeats 1000000 in
set_option maxRecDepth 100000 in
theorem mays_made_n0 (A : Nat) (hA : A < 4294967296) (L : Int) (l : List Mz) (N : Nat) (hN : l.length = N) (hN2 : N ≤ 30) (ls : List Int) (n : Nat) (hn : ls.length = n) (hr : n * 8 ≤ 140737488351232) (att : Int) (o : Mz) (a : Nat) (q : Int) (ha : a < 4294967296) (kN : Nat) (hk : att % (((blL (cpM 64 (codeL ls)) 64 (a % 256 / 4 * 4) 16).length : Int) + 1) = (kN : Int)) (hkK : kN < (blL (cpM 64 (codeL ls)) 64 (a % 256 / 4 * 4) 16).length) (h4 : bits .and .i64 q 4 ≠ 4) (h8 : bits .and .i64 q 8 ≠ 8) :
    Fn Try.prog 6 [.agg [.int .u32 A, .int .i64 L, .sl 0 0 N], .s (.bool false), .s (.sl 1 0 n), .s (.int .i64 att), .agg o.C, .s (.int .u32 a), .s (.int .i64 q)] [⟨false, 6, mzs l⟩, ⟨false, 1, isv .i64 ls⟩] (· = ⟨.a (.s (.bool true)), [], []⟩) := by
  have hcode := code_fn ls n hn hr
  have hyl : (codeL ls).length = n := by rw [codeL_len, hn]
  have hx := cpM_len 64 (codeL ls)
  have hxr := cpM_lt 64 (codeL ls) (codeL_lt ls)
  have hset := cpM_set 64 (codeL ls)
  have hsk := sk_take (codeL ls) n hyl
  have hsy := wsv_scal (codeL ls)
  have q1 : IntKind.u32.wrap ((a : Int) % 256 / 4 * 4) = ((a % 256 / 4 * 4 : Nat) : Int) := by rw [wu32 (by omega) (by omega)]; omega
  have hf := blL_facts (cpM 64 (codeL ls)) 64 (a % 256 / 4 * 4) 16 hxr
  have hAl : blA 64 (a % 256 / 4 * 4) 16 < 4294967296 := by unfold blA; split <;> omega
  obtain ⟨K, hK⟩ : ∃ K, (blL (cpM 64 (codeL ls)) 64 (a % 256 / 4 * 4) 16).length = K := ⟨_, rfl⟩
  have crb := rbuildA_fn (cpM 64 (codeL ls)) 64 (a % 256 / 4 * 4) 16 hx (by omega) (by omega) hxr K hK
  rw [hK] at hkK hk hf
  have hK16 := hf.1
  clear hf
  rw [← mzs_mcs] at crb
  obtain ⟨l2, hl2⟩ : ∃ l2, (blL (cpM 64 (codeL ls)) 64 (a % 256 / 4 * 4) 16).map Mi.z = l2 := ⟨_, rfl⟩
  rw [hl2] at crb
  have hlen2 : l2.length = K := by rw [← hl2, List.length_map, hK]
  clear hl2 hK
  generalize blA 64 (a % 256 / 4 * 4) 16 = B at *
  have cr1 := rnd_fn att ((K : Int) + 1) (by omega) (by omega)
  rw [hk] at cr1
  have q2 : IntKind.i64.wrap ((K : Int) + 1) = (K : Int) + 1 := wi64 (by omega) (by omega)
  have cr4 := rnd_fn q 4 (by omega) (by omega)
  have cr3 := rnd_fn q 3 (by omega) (by omega)
  have hr3 : 0 ≤ q % 3 ∧ q % 3 < 3 := by omega
  have x1 : 0 + ((kN : Nat) : Int).toNat * ty39.size = kN * 6 := by show 0 + ((kN : Nat) : Int).toNat * 6 = _; omega
  have x2 : 0 + 0 + ((kN : Nat) : Int).toNat * ty39.size = kN * 6 := by show 0 + 0 + ((kN : Nat) : Int).toNat * 6 = _; omega
  generalize q % 3 = r3 at *
  generalize q % 4 = r4 at *
  generalize hb8 : bits .and .i64 q 8 = b8 at *
  have q3 : IntKind.i64.wrap ((K : Int) + r3) = (K : Int) + r3 := wi64 (by omega) (by omega)
  have hs1 := mzs_setN l2 kN r4 (by omega)
  have hlm := mzs_len l2
  generalize hb4 : bits .and .i64 q 4 = b4 at *
  obtain ⟨v, cm, crm⟩ := mayBoth B hAl (K : Int) (setN l2 kN r4) K (by rw [setN_len]; exact hlen2) (by omega)
  have hsF := mzs_scal (setN l2 kN r4)
  have cf := frame_fn B hAl (K : Int) K (mzs (setN l2 kN r4)) hsF
  have crf := rframe_fn B hAl (K : Int) K (mzs (setN l2 kN r4)) hsF
  have hsc := isv_scal .i64 ls
  have hsb := mzs_scal l
  have cfw := few_fn A L N (mzs l) hsb
  rw [decide_eq_true (by omega)] at cfw
  have hsm := wsv_scal (cpM 64 (codeL ls))
  have hs2c := mzs_scal l2
  generalize wsv (cpM 64 (codeL ls)) = MM at *
  generalize hYT : wsv ((codeL ls).take 64) = YT at *
  generalize wsv (codeL ls) = YY at *
  generalize mzs l = LB at *
  generalize hLF : mzs (setN l2 kN r4) = LF at *
  generalize mzs l2 = L2 at *
  generalize hLL : isv .i64 ls = LL at *
  unfold Mz.C
  refine fn_of_vc mixed tys_ok _ _ Try.func6 (by kernel_rfl) rfl Try.ntmps6 (by rw [Try.results6]) rfl ?_; dsimp only [argTm, argHl, Nat.zero_add, Nat.reduceAdd, List.length_nil, List.length_cons]
  (repeat' ((conv => whnf); first | ((with_reducible apply Vl.mk (α := Int)); · with_reducible first | exact q1 | exact q2 | exact q3 | exact hb8 | exact hb4)  |  ((first | apply Br.mk | apply Gd.mk) <;> (intro hb; first | (exact absurd hb (by decide)) | exact Bool.noConfusion (hb.symm.trans (by assumption) : true = false) | exact Bool.noConfusion (hb.symm.trans (by assumption) : false = true) | (exfalso; revert hb; simp only [beq_self_eq_true, Bool.and_true, Bool.and_self, reduceCtorEq, false_implies, bne_self_eq_false, imp_false, not_true_eq_false, not_false_eq_true, Bool.true_eq_false, Bool.false_eq_true]; done) | (simp only [decide_eq_true_eq, decide_eq_false_iff_not, beq_iff_eq, bne_iff_ne, beq_eq_false_iff_ne, bne_eq_false_iff_eq, Bool.not_eq_true', Bool.not_eq_false', Int.not_lt, Int.not_le, ge_iff_le, gt_iff_lt, ne_eq, Classical.not_not] at hb; first | (exfalso; omega) | skip) | skip))  |  (refine Eqs.mk _ (eqt_ok _ _ rfl _ _ _ rfl) ?_)  |  (refine vcall_pure (f := 16) (awake15_fn) rfl ?_)  |  (refine vcall_det (f := 22) cfw [⟨_, 0⟩] [(_, ⟨false, 6, LB⟩)] rfl ⟨rfl, trivial⟩ ⟨rfl, rowM_ro hsb, trivial⟩ ⟨rfl, noUp⟩ ?_)  |  (refine vcall_det (f := 8) new2_fn [] [] rfl trivial trivial ⟨rfl, noUp⟩ ?_)  |  (refine vcall_det (f := 17) hcode [⟨_, 0⟩] [(_, ⟨false, 1, LL⟩)] rfl ⟨rfl, trivial⟩ ⟨rfl, rowM_ro hsc, trivial⟩ ⟨rfl, noUp⟩ ?_)  |  (apply Sk.mk; · exact hsk)  |  (apply Sd.mk; · first | (refine ⟨rfl, ?_⟩; show 0 + YT.length ≤ (wsv (zer 64)).length; rw [hsk.1]; show 0 + min n 64 * 1 ≤ 64; omega) | (refine ⟨rfl, rfl, rfl, ?_⟩; show kN * 6 + 5 + 1 ≤ L2.length; omega) | (show kN < K; omega))  |  ((with_reducible apply Vl.mk (α := Nat)); · first | with_reducible exact x1 | exact x2)  |  ((with_reducible apply Vl.mk (α := List SV)); · first | with_reducible exact hs1 | exact hs1 | exact hset)  |  (refine vcall_det (f := 19) crb [⟨_, 0⟩] [(_, ⟨true, 1, MM⟩)] rfl ⟨rfl, trivial⟩ ⟨rfl, rowM_ro hsm, trivial⟩ ⟨rfl, noUp⟩ ?_)  |  (refine vcall_pure (f := 7) (cr1) rfl ?_)  |  (refine vcall_pure (f := 7) (cr4) rfl ?_)  |  (refine vcall_pure (f := 7) (cr3) rfl ?_)  |  (refine vcall_det (f := 13) cm [⟨_, 0⟩] [(_, ⟨true, 6, LF⟩)] rfl ⟨rfl, trivial⟩ ⟨rfl, rowM_ro hsF, trivial⟩ ⟨rfl, noUp⟩ ?_)  |  (refine vcall_det (f := 23) crm [⟨_, 0⟩] [(_, ⟨true, 6, LF⟩)] rfl ⟨rfl, trivial⟩ ⟨rfl, rowM_ro hsF, trivial⟩ ⟨rfl, noUp⟩ ?_)  |  (refine vcall_det (f := 20) cf [⟨_, 0⟩] [(_, ⟨true, 6, LF⟩)] rfl ⟨rfl, trivial⟩ ⟨rfl, rowM_ro hsF, trivial⟩ ⟨rfl, noUp⟩ ?_)  |  (refine vcall_det (f := 21) crf [⟨_, 0⟩] [(_, ⟨true, 6, LF⟩)] rfl ⟨rfl, trivial⟩ ⟨rfl, rowM_ro hsF, trivial⟩ ⟨rfl, noUp⟩ ?_) | (with_reducible apply sd_draw; · kernel_rfl) | (apply Sd.mk; · first | exact rfl | trivial | omega | (repeat' apply And.intro) <;> first | exact rfl | exact Nat.le_of_ble_eq_true rfl | omega | decide) | ((with_reducible apply Vl.mk (α := Int)); · (first | (with_reducible exact bits_keep _ _ _ _) | ((rewrite [tdiv_pos]); (focus (first | exact wi64 (by omega) (by omega) | exact wu32 (by omega) (by omega) | exact wi32 (by omega) (by omega))); omega) | exact tmod_pos (by omega) | exact wi64 (by omega) (by omega) | exact wu32 (by omega) (by omega) | exact wu32' _ | exact wu8 (by omega) (by omega) | exact wu64 (by omega) (by omega) | exact wi32 (by omega) (by omega) | rfl)) | ((with_reducible first | apply Vl.mk (α := Bool) | apply Vl.mk (α := Nat) | apply Vl.mk (α := ByteArray) | apply Ge.mk (α := Row) | apply Ge.mk (α := SV) | apply Ge.mk (α := AV)); · exact rfl) | (refine And.intro rfl ?_) | ((with_reducible first | apply Vl.mk (α := List SV) | apply Vl.mk (α := Ef) | apply Vl.mk (α := TV) | apply Ge.mk (α := List SV) | apply Sg.mk | apply Sk.mk); · (first | exact setAll_eq rfl | exact sg_all _ rfl | exact sk_all _ rfl rfl | ((first | apply sg_fc | apply sk_fc | (apply fc_eq; (conv => arg 1; whnf); apply fc_some) | apply fc_eq); (repeat' (first | exact fc_ren (wsv_scal _) | exact fc_ren (by assumption) | ((conv => arg 1; whnf); first | exact fc_nil | apply fc_cons | exact fc_int | exact fc_bool | exact fc_n | exact fc_ns | exact fc_ptr | exact fc_sl | exact fc_str | exact fc_unk | exact fc_fn | apply fc_s | apply fc_agg | apply fc_ta | apply fc_tup | exact fc_an | apply fc_ac | exact fc_tu | exact fc_nat | exact fc_bo | exact fc_none | apply fc_some | apply fc_pair | apply fc_row | apply fc_ef))); (all_goals exact rfl)) | ((dsimp only [Res.ef, renT, renA, renS, renN, nwN, upN, renRow, List.map_cons, List.map_nil, List.length_cons, List.length_nil]); first | done | exact rfl) | (dsimp only [setAll, List.set_cons_zero, List.set_cons_succ, List.cons_append, List.nil_append]; exact rfl) | exact rfl)) | ((first | apply Br.mk | apply Gd.mk) <;> (intro hb; first | (exact absurd hb (by decide)) | exact Bool.noConfusion (hb.symm.trans (by assumption) : true = false) | exact Bool.noConfusion (hb.symm.trans (by assumption) : false = true) | (simp only [decide_eq_true_eq, decide_eq_false_iff_not, beq_iff_eq, bne_iff_ne, beq_eq_false_iff_ne, bne_eq_false_iff_eq, Bool.not_eq_true', Bool.not_eq_false', Int.not_lt, Int.not_le, ge_iff_le, gt_iff_lt, ne_eq, Classical.not_not] at hb; first | (exfalso; omega) | skip) | skip)))); (all_goals (try (conv => whnf)))
  all_goals first | (apply Fin.mk (m := [(0, some 0), (1, some 1)]); (focus exact rfl); (all_goals ((try (show HlS _ _ [] _)); first | ((repeat' (first | exact SVsM.nil | exact avsm_nil | exact svm_same rfl | exact svm_ptr rfl | exact svm_sl rfl | exact svm_slnil rfl | exact svsm_scal rfl | exact svsm_scal (wsv_scal _) | exact svsm_scal (by assumption) | exact hls_nil | apply SVsM.cons | apply tvm_a | apply tvm_tup | apply avm_agg | apply avm_s | apply avsm_cons | exact trivial | (refine hls_skip rfl ?_) | apply hls_none | apply hls_row | (refine rowmt_mk rfl rfl rfl rfl ?_) | exact rowmt_nil rfl rfl)); done) | exact rfl))) | trace_state
set_option maxHeartbeats 1000000 in
set_option maxRecDepth 100000 in
theorem mays_made_n1 (A : Nat) (hA : A < 4294967296) (L : Int) (l : List Mz) (N : Nat) (hN : l.length = N) (hN2 : N ≤ 30) (ls : List Int) (n : Nat) (hn : ls.length = n) (hr : n * 8 ≤ 140737488351232) (att : Int) (o : Mz) (a : Nat) (q : Int) (ha : a < 4294967296) (kN : Nat) (hk : att % (((blL (cpM 64 (codeL ls)) 64 (a % 256 / 4 * 4) 16).length : Int) + 1) = (kN : Int)) (hkK : kN < (blL (cpM 64 (codeL ls)) 64 (a % 256 / 4 * 4) 16).length) (h4 : bits .and .i64 q 4 ≠ 4) (h8 : bits .and .i64 q 8 = 8) :
    Fn Try.prog 6 [.agg [.int .u32 A, .int .i64 L, .sl 0 0 N], .s (.bool false), .s (.sl 1 0 n), .s (.int .i64 att), .agg o.C, .s (.int .u32 a), .s (.int .i64 q)] [⟨false, 6, mzs l⟩, ⟨false, 1, isv .i64 ls⟩] (· = ⟨.a (.s (.bool true)), [], []⟩) := by
  have hcode := code_fn ls n hn hr
  have hyl : (codeL ls).length = n := by rw [codeL_len, hn]
  have hx := cpM_len 64 (codeL ls)
  have hxr := cpM_lt 64 (codeL ls) (codeL_lt ls)
  have hset := cpM_set 64 (codeL ls)
  have hsk := sk_take (codeL ls) n hyl
  have hsy := wsv_scal (codeL ls)
  have q1 : IntKind.u32.wrap ((a : Int) % 256 / 4 * 4) = ((a % 256 / 4 * 4 : Nat) : Int) := by rw [wu32 (by omega) (by omega)]; omega
  have hf := blL_facts (cpM 64 (codeL ls)) 64 (a % 256 / 4 * 4) 16 hxr
  have hAl : blA 64 (a % 256 / 4 * 4) 16 < 4294967296 := by unfold blA; split <;> omega
  obtain ⟨K, hK⟩ : ∃ K, (blL (cpM 64 (codeL ls)) 64 (a % 256 / 4 * 4) 16).length = K := ⟨_, rfl⟩
  have crb := rbuildA_fn (cpM 64 (codeL ls)) 64 (a % 256 / 4 * 4) 16 hx (by omega) (by omega) hxr K hK
  rw [hK] at hkK hk hf
  have hK16 := hf.1
  clear hf
  rw [← mzs_mcs] at crb
  obtain ⟨l2, hl2⟩ : ∃ l2, (blL (cpM 64 (codeL ls)) 64 (a % 256 / 4 * 4) 16).map Mi.z = l2 := ⟨_, rfl⟩
  rw [hl2] at crb
  have hlen2 : l2.length = K := by rw [← hl2, List.length_map, hK]
  clear hl2 hK
  generalize blA 64 (a % 256 / 4 * 4) 16 = B at *
  have cr1 := rnd_fn att ((K : Int) + 1) (by omega) (by omega)
  rw [hk] at cr1
  have q2 : IntKind.i64.wrap ((K : Int) + 1) = (K : Int) + 1 := wi64 (by omega) (by omega)
  have cr4 := rnd_fn q 4 (by omega) (by omega)
  have cr3 := rnd_fn q 3 (by omega) (by omega)
  have hr3 : 0 ≤ q % 3 ∧ q % 3 < 3 := by omega
  have x1 : 0 + ((kN : Nat) : Int).toNat * ty39.size = kN * 6 := by show 0 + ((kN : Nat) : Int).toNat * 6 = _; omega
  have x2 : 0 + 0 + ((kN : Nat) : Int).toNat * ty39.size = kN * 6 := by show 0 + 0 + ((kN : Nat) : Int).toNat * 6 = _; omega
  generalize q % 3 = r3 at *
  generalize q % 4 = r4 at *
  generalize hb8 : bits .and .i64 q 8 = b8 at *
  have q3 : IntKind.i64.wrap ((K : Int) + r3) = (K : Int) + r3 := wi64 (by omega) (by omega)
  have hs1 := mzs_setN l2 kN r4 (by omega)
  have hlm := mzs_len l2
  generalize hb4 : bits .and .i64 q 4 = b4 at *
  obtain ⟨v, cm, crm⟩ := mayBoth B hAl ((K : Int) + r3) (setN l2 kN r4) K (by rw [setN_len]; exact hlen2) (by omega)
  have hsF := mzs_scal (setN l2 kN r4)
  have cf := frame_fn B hAl ((K : Int) + r3) K (mzs (setN l2 kN r4)) hsF
  have crf := rframe_fn B hAl ((K : Int) + r3) K (mzs (setN l2 kN r4)) hsF
  have hsc := isv_scal .i64 ls
  have hsb := mzs_scal l
  have cfw := few_fn A L N (mzs l) hsb
  rw [decide_eq_true (by omega)] at cfw
  have hsm := wsv_scal (cpM 64 (codeL ls))
  have hs2c := mzs_scal l2
  generalize wsv (cpM 64 (codeL ls)) = MM at *
  generalize hYT : wsv ((codeL ls).take 64) = YT at *
  generalize wsv (codeL ls) = YY at *
  generalize mzs l = LB at *
  generalize hLF : mzs (setN l2 kN r4) = LF at *
  generalize mzs l2 = L2 at *
  generalize hLL : isv .i64 ls = LL at *
  unfold Mz.C
  refine fn_of_vc mixed tys_ok _ _ Try.func6 (by kernel_rfl) rfl Try.ntmps6 (by rw [Try.results6]) rfl ?_; dsimp only [argTm, argHl, Nat.zero_add, Nat.reduceAdd, List.length_nil, List.length_cons]
  (repeat' ((conv => whnf); first | ((with_reducible apply Vl.mk (α := Int)); · with_reducible first | exact q1 | exact q2 | exact q3 | exact hb8 | exact hb4)  |  ((first | apply Br.mk | apply Gd.mk) <;> (intro hb; first | (exact absurd hb (by decide)) | exact Bool.noConfusion (hb.symm.trans (by assumption) : true = false) | exact Bool.noConfusion (hb.symm.trans (by assumption) : false = true) | (exfalso; revert hb; simp only [beq_self_eq_true, Bool.and_true, Bool.and_self, reduceCtorEq, false_implies, bne_self_eq_false, imp_false, not_true_eq_false, not_false_eq_true, Bool.true_eq_false, Bool.false_eq_true]; done) | (simp only [decide_eq_true_eq, decide_eq_false_iff_not, beq_iff_eq, bne_iff_ne, beq_eq_false_iff_ne, bne_eq_false_iff_eq, Bool.not_eq_true', Bool.not_eq_false', Int.not_lt, Int.not_le, ge_iff_le, gt_iff_lt, ne_eq, Classical.not_not] at hb; first | (exfalso; omega) | skip) | skip))  |  (refine Eqs.mk _ (eqt_ok _ _ rfl _ _ _ rfl) ?_)  |  (refine vcall_pure (f := 16) (awake15_fn) rfl ?_)  |  (refine vcall_det (f := 22) cfw [⟨_, 0⟩] [(_, ⟨false, 6, LB⟩)] rfl ⟨rfl, trivial⟩ ⟨rfl, rowM_ro hsb, trivial⟩ ⟨rfl, noUp⟩ ?_)  |  (refine vcall_det (f := 8) new2_fn [] [] rfl trivial trivial ⟨rfl, noUp⟩ ?_)  |  (refine vcall_det (f := 17) hcode [⟨_, 0⟩] [(_, ⟨false, 1, LL⟩)] rfl ⟨rfl, trivial⟩ ⟨rfl, rowM_ro hsc, trivial⟩ ⟨rfl, noUp⟩ ?_)  |  (apply Sk.mk; · exact hsk)  |  (apply Sd.mk; · first | (refine ⟨rfl, ?_⟩; show 0 + YT.length ≤ (wsv (zer 64)).length; rw [hsk.1]; show 0 + min n 64 * 1 ≤ 64; omega) | (refine ⟨rfl, rfl, rfl, ?_⟩; show kN * 6 + 5 + 1 ≤ L2.length; omega) | (show kN < K; omega))  |  ((with_reducible apply Vl.mk (α := Nat)); · first | with_reducible exact x1 | exact x2)  |  ((with_reducible apply Vl.mk (α := List SV)); · first | with_reducible exact hs1 | exact hs1 | exact hset)  |  (refine vcall_det (f := 19) crb [⟨_, 0⟩] [(_, ⟨true, 1, MM⟩)] rfl ⟨rfl, trivial⟩ ⟨rfl, rowM_ro hsm, trivial⟩ ⟨rfl, noUp⟩ ?_)  |  (refine vcall_pure (f := 7) (cr1) rfl ?_)  |  (refine vcall_pure (f := 7) (cr4) rfl ?_)  |  (refine vcall_pure (f := 7) (cr3) rfl ?_)  |  (refine vcall_det (f := 13) cm [⟨_, 0⟩] [(_, ⟨true, 6, LF⟩)] rfl ⟨rfl, trivial⟩ ⟨rfl, rowM_ro hsF, trivial⟩ ⟨rfl, noUp⟩ ?_)  |  (refine vcall_det (f := 23) crm [⟨_, 0⟩] [(_, ⟨true, 6, LF⟩)] rfl ⟨rfl, trivial⟩ ⟨rfl, rowM_ro hsF, trivial⟩ ⟨rfl, noUp⟩ ?_)  |  (refine vcall_det (f := 20) cf [⟨_, 0⟩] [(_, ⟨true, 6, LF⟩)] rfl ⟨rfl, trivial⟩ ⟨rfl, rowM_ro hsF, trivial⟩ ⟨rfl, noUp⟩ ?_)  |  (refine vcall_det (f := 21) crf [⟨_, 0⟩] [(_, ⟨true, 6, LF⟩)] rfl ⟨rfl, trivial⟩ ⟨rfl, rowM_ro hsF, trivial⟩ ⟨rfl, noUp⟩ ?_) | (with_reducible apply sd_draw; · kernel_rfl) | (apply Sd.mk; · first | exact rfl | trivial | omega | (repeat' apply And.intro) <;> first | exact rfl | exact Nat.le_of_ble_eq_true rfl | omega | decide) | ((with_reducible apply Vl.mk (α := Int)); · (first | (with_reducible exact bits_keep _ _ _ _) | ((rewrite [tdiv_pos]); (focus (first | exact wi64 (by omega) (by omega) | exact wu32 (by omega) (by omega) | exact wi32 (by omega) (by omega))); omega) | exact tmod_pos (by omega) | exact wi64 (by omega) (by omega) | exact wu32 (by omega) (by omega) | exact wu32' _ | exact wu8 (by omega) (by omega) | exact wu64 (by omega) (by omega) | exact wi32 (by omega) (by omega) | rfl)) | ((with_reducible first | apply Vl.mk (α := Bool) | apply Vl.mk (α := Nat) | apply Vl.mk (α := ByteArray) | apply Ge.mk (α := Row) | apply Ge.mk (α := SV) | apply Ge.mk (α := AV)); · exact rfl) | (refine And.intro rfl ?_) | ((with_reducible first | apply Vl.mk (α := List SV) | apply Vl.mk (α := Ef) | apply Vl.mk (α := TV) | apply Ge.mk (α := List SV) | apply Sg.mk | apply Sk.mk); · (first | exact setAll_eq rfl | exact sg_all _ rfl | exact sk_all _ rfl rfl | ((first | apply sg_fc | apply sk_fc | (apply fc_eq; (conv => arg 1; whnf); apply fc_some) | apply fc_eq); (repeat' (first | exact fc_ren (wsv_scal _) | exact fc_ren (by assumption) | ((conv => arg 1; whnf); first | exact fc_nil | apply fc_cons | exact fc_int | exact fc_bool | exact fc_n | exact fc_ns | exact fc_ptr | exact fc_sl | exact fc_str | exact fc_unk | exact fc_fn | apply fc_s | apply fc_agg | apply fc_ta | apply fc_tup | exact fc_an | apply fc_ac | exact fc_tu | exact fc_nat | exact fc_bo | exact fc_none | apply fc_some | apply fc_pair | apply fc_row | apply fc_ef))); (all_goals exact rfl)) | ((dsimp only [Res.ef, renT, renA, renS, renN, nwN, upN, renRow, List.map_cons, List.map_nil, List.length_cons, List.length_nil]); first | done | exact rfl) | (dsimp only [setAll, List.set_cons_zero, List.set_cons_succ, List.cons_append, List.nil_append]; exact rfl) | exact rfl)) | ((first | apply Br.mk | apply Gd.mk) <;> (intro hb; first | (exact absurd hb (by decide)) | exact Bool.noConfusion (hb.symm.trans (by assumption) : true = false) | exact Bool.noConfusion (hb.symm.trans (by assumption) : false = true) | (simp only [decide_eq_true_eq, decide_eq_false_iff_not, beq_iff_eq, bne_iff_ne, beq_eq_false_iff_ne, bne_eq_false_iff_eq, Bool.not_eq_true', Bool.not_eq_false', Int.not_lt, Int.not_le, ge_iff_le, gt_iff_lt, ne_eq, Classical.not_not] at hb; first | (exfalso; omega) | skip) | skip)))); (all_goals (try (conv => whnf)))
  all_goals first | (apply Fin.mk (m := [(0, some 0), (1, some 1)]); (focus exact rfl); (all_goals ((try (show HlS _ _ [] _)); first | ((repeat' (first | exact SVsM.nil | exact avsm_nil | exact svm_same rfl | exact svm_ptr rfl | exact svm_sl rfl | exact svm_slnil rfl | exact svsm_scal rfl | exact svsm_scal (wsv_scal _) | exact svsm_scal (by assumption) | exact hls_nil | apply SVsM.cons | apply tvm_a | apply tvm_tup | apply avm_agg | apply avm_s | apply avsm_cons | exact trivial | (refine hls_skip rfl ?_) | apply hls_none | apply hls_row | (refine rowmt_mk rfl rfl rfl rfl ?_) | exact rowmt_nil rfl rfl)); done) | exact rfl))) | trace_state
set_option maxHeartbeats 1000000 in
set_option maxRecDepth 100000 in
theorem mays_made_o0 (A : Nat) (hA : A < 4294967296) (L : Int) (l : List Mz) (N : Nat) (hN : l.length = N) (hN2 : N ≤ 30) (ls : List Int) (n : Nat) (hn : ls.length = n) (hr : n * 8 ≤ 140737488351232) (att : Int) (o : Mz) (a : Nat) (q : Int) (ha : a < 4294967296) (kN : Nat) (hk : att % (((blL (cpM 64 (codeL ls)) 64 (a % 256 / 4 * 4) 16).length : Int) + 1) = (kN : Int)) (hkK : kN < (blL (cpM 64 (codeL ls)) 64 (a % 256 / 4 * 4) 16).length) (h4 : bits .and .i64 q 4 = 4) (h8 : bits .and .i64 q 8 ≠ 8) :
    Fn Try.prog 6 [.agg [.int .u32 A, .int .i64 L, .sl 0 0 N], .s (.bool false), .s (.sl 1 0 n), .s (.int .i64 att), .agg o.C, .s (.int .u32 a), .s (.int .i64 q)] [⟨false, 6, mzs l⟩, ⟨false, 1, isv .i64 ls⟩] (· = ⟨.a (.s (.bool true)), [], []⟩) := by
  have hcode := code_fn ls n hn hr
  have hyl : (codeL ls).length = n := by rw [codeL_len, hn]
  have hx := cpM_len 64 (codeL ls)
  have hxr := cpM_lt 64 (codeL ls) (codeL_lt ls)
  have hset := cpM_set 64 (codeL ls)
  have hsk := sk_take (codeL ls) n hyl
  have hsy := wsv_scal (codeL ls)
  have q1 : IntKind.u32.wrap ((a : Int) % 256 / 4 * 4) = ((a % 256 / 4 * 4 : Nat) : Int) := by rw [wu32 (by omega) (by omega)]; omega
  have hf := blL_facts (cpM 64 (codeL ls)) 64 (a % 256 / 4 * 4) 16 hxr
  have hAl : blA 64 (a % 256 / 4 * 4) 16 < 4294967296 := by unfold blA; split <;> omega
  obtain ⟨K, hK⟩ : ∃ K, (blL (cpM 64 (codeL ls)) 64 (a % 256 / 4 * 4) 16).length = K := ⟨_, rfl⟩
  have crb := rbuildA_fn (cpM 64 (codeL ls)) 64 (a % 256 / 4 * 4) 16 hx (by omega) (by omega) hxr K hK
  rw [hK] at hkK hk hf
  have hK16 := hf.1
  clear hf
  rw [← mzs_mcs] at crb
  obtain ⟨l2, hl2⟩ : ∃ l2, (blL (cpM 64 (codeL ls)) 64 (a % 256 / 4 * 4) 16).map Mi.z = l2 := ⟨_, rfl⟩
  rw [hl2] at crb
  have hlen2 : l2.length = K := by rw [← hl2, List.length_map, hK]
  clear hl2 hK
  generalize blA 64 (a % 256 / 4 * 4) 16 = B at *
  have cr1 := rnd_fn att ((K : Int) + 1) (by omega) (by omega)
  rw [hk] at cr1
  have q2 : IntKind.i64.wrap ((K : Int) + 1) = (K : Int) + 1 := wi64 (by omega) (by omega)
  have cr4 := rnd_fn q 4 (by omega) (by omega)
  have cr3 := rnd_fn q 3 (by omega) (by omega)
  have hr3 : 0 ≤ q % 3 ∧ q % 3 < 3 := by omega
  have x1 : 0 + ((kN : Nat) : Int).toNat * ty39.size = kN * 6 := by show 0 + ((kN : Nat) : Int).toNat * 6 = _; omega
  have x2 : 0 + 0 + ((kN : Nat) : Int).toNat * ty39.size = kN * 6 := by show 0 + 0 + ((kN : Nat) : Int).toNat * 6 = _; omega
  generalize q % 3 = r3 at *
  generalize q % 4 = r4 at *
  generalize hb8 : bits .and .i64 q 8 = b8 at *
  have q3 : IntKind.i64.wrap ((K : Int) + r3) = (K : Int) + r3 := wi64 (by omega) (by omega)
  have hs1 := mzs_setN l2 kN r4 (by omega)
  have hlm := mzs_len l2
  generalize hb4 : bits .and .i64 q 4 = b4 at *
  have hs2 := mzs_set (setN l2 kN r4) kN o (by rw [setN_len]; omega)
  have hlm2 := mzs_len (setN l2 kN r4)
  rw [setN_len] at hlm2
  unfold Mz.C at hs2
  obtain ⟨v, cm, crm⟩ := mayBoth B hAl (K : Int) ((setN l2 kN r4).set kN o) K (by rw [List.length_set, setN_len]; exact hlen2) (by omega)
  have hsF := mzs_scal ((setN l2 kN r4).set kN o)
  have cf := frame_fn B hAl (K : Int) K (mzs ((setN l2 kN r4).set kN o)) hsF
  have crf := rframe_fn B hAl (K : Int) K (mzs ((setN l2 kN r4).set kN o)) hsF
  have hsc := isv_scal .i64 ls
  have hsb := mzs_scal l
  have cfw := few_fn A L N (mzs l) hsb
  rw [decide_eq_true (by omega)] at cfw
  have hsm := wsv_scal (cpM 64 (codeL ls))
  have hs2c := mzs_scal l2
  generalize wsv (cpM 64 (codeL ls)) = MM at *
  generalize hYT : wsv ((codeL ls).take 64) = YT at *
  generalize wsv (codeL ls) = YY at *
  generalize mzs l = LB at *
  generalize hLF : mzs ((setN l2 kN r4).set kN o) = LF at *
  generalize mzs (setN l2 kN r4) = L3 at *
  generalize mzs l2 = L2 at *
  generalize hLL : isv .i64 ls = LL at *
  unfold Mz.C
  refine fn_of_vc mixed tys_ok _ _ Try.func6 (by kernel_rfl) rfl Try.ntmps6 (by rw [Try.results6]) rfl ?_; dsimp only [argTm, argHl, Nat.zero_add, Nat.reduceAdd, List.length_nil, List.length_cons]
  (repeat' ((conv => whnf); first | ((with_reducible apply Vl.mk (α := Int)); · with_reducible first | exact q1 | exact q2 | exact q3 | exact hb8 | exact hb4)  |  ((first | apply Br.mk | apply Gd.mk) <;> (intro hb; first | (exact absurd hb (by decide)) | exact Bool.noConfusion (hb.symm.trans (by assumption) : true = false) | exact Bool.noConfusion (hb.symm.trans (by assumption) : false = true) | (exfalso; revert hb; simp only [beq_self_eq_true, Bool.and_true, Bool.and_self, reduceCtorEq, false_implies, bne_self_eq_false, imp_false, not_true_eq_false, not_false_eq_true, Bool.true_eq_false, Bool.false_eq_true]; done) | (simp only [decide_eq_true_eq, decide_eq_false_iff_not, beq_iff_eq, bne_iff_ne, beq_eq_false_iff_ne, bne_eq_false_iff_eq, Bool.not_eq_true', Bool.not_eq_false', Int.not_lt, Int.not_le, ge_iff_le, gt_iff_lt, ne_eq, Classical.not_not] at hb; first | (exfalso; omega) | skip) | skip))  |  (refine Eqs.mk _ (eqt_ok _ _ rfl _ _ _ rfl) ?_)  |  (refine vcall_pure (f := 16) (awake15_fn) rfl ?_)  |  (refine vcall_det (f := 22) cfw [⟨_, 0⟩] [(_, ⟨false, 6, LB⟩)] rfl ⟨rfl, trivial⟩ ⟨rfl, rowM_ro hsb, trivial⟩ ⟨rfl, noUp⟩ ?_)  |  (refine vcall_det (f := 8) new2_fn [] [] rfl trivial trivial ⟨rfl, noUp⟩ ?_)  |  (refine vcall_det (f := 17) hcode [⟨_, 0⟩] [(_, ⟨false, 1, LL⟩)] rfl ⟨rfl, trivial⟩ ⟨rfl, rowM_ro hsc, trivial⟩ ⟨rfl, noUp⟩ ?_)  |  (apply Sk.mk; · exact hsk)  |  (apply Sd.mk; · first | (refine ⟨rfl, ?_⟩; show 0 + YT.length ≤ (wsv (zer 64)).length; rw [hsk.1]; show 0 + min n 64 * 1 ≤ 64; omega) | (refine ⟨rfl, rfl, rfl, ?_⟩; show kN * 6 + 5 + 1 ≤ L2.length; omega) | (show kN < K; omega) | (refine ⟨rfl, rfl, rfl, ?_⟩; show kN * 6 + 6 ≤ L3.length; omega))  |  ((with_reducible apply Vl.mk (α := Nat)); · first | with_reducible exact x1 | exact x2)  |  ((with_reducible apply Vl.mk (α := List SV)); · first | with_reducible exact hs1 | exact hs1 | with_reducible exact hs2 | exact hs2 | exact hset)  |  (refine vcall_det (f := 19) crb [⟨_, 0⟩] [(_, ⟨true, 1, MM⟩)] rfl ⟨rfl, trivial⟩ ⟨rfl, rowM_ro hsm, trivial⟩ ⟨rfl, noUp⟩ ?_)  |  (refine vcall_pure (f := 7) (cr1) rfl ?_)  |  (refine vcall_pure (f := 7) (cr4) rfl ?_)  |  (refine vcall_pure (f := 7) (cr3) rfl ?_)  |  (refine vcall_det (f := 13) cm [⟨_, 0⟩] [(_, ⟨true, 6, LF⟩)] rfl ⟨rfl, trivial⟩ ⟨rfl, rowM_ro hsF, trivial⟩ ⟨rfl, noUp⟩ ?_)  |  (refine vcall_det (f := 23) crm [⟨_, 0⟩] [(_, ⟨true, 6, LF⟩)] rfl ⟨rfl, trivial⟩ ⟨rfl, rowM_ro hsF, trivial⟩ ⟨rfl, noUp⟩ ?_)  |  (refine vcall_det (f := 20) cf [⟨_, 0⟩] [(_, ⟨true, 6, LF⟩)] rfl ⟨rfl, trivial⟩ ⟨rfl, rowM_ro hsF, trivial⟩ ⟨rfl, noUp⟩ ?_)  |  (refine vcall_det (f := 21) crf [⟨_, 0⟩] [(_, ⟨true, 6, LF⟩)] rfl ⟨rfl, trivial⟩ ⟨rfl, rowM_ro hsF, trivial⟩ ⟨rfl, noUp⟩ ?_) | (with_reducible apply sd_draw; · kernel_rfl) | (apply Sd.mk; · first | exact rfl | trivial | omega | (repeat' apply And.intro) <;> first | exact rfl | exact Nat.le_of_ble_eq_true rfl | omega | decide) | ((with_reducible apply Vl.mk (α := Int)); · (first | (with_reducible exact bits_keep _ _ _ _) | ((rewrite [tdiv_pos]); (focus (first | exact wi64 (by omega) (by omega) | exact wu32 (by omega) (by omega) | exact wi32 (by omega) (by omega))); omega) | exact tmod_pos (by omega) | exact wi64 (by omega) (by omega) | exact wu32 (by omega) (by omega) | exact wu32' _ | exact wu8 (by omega) (by omega) | exact wu64 (by omega) (by omega) | exact wi32 (by omega) (by omega) | rfl)) | ((with_reducible first | apply Vl.mk (α := Bool) | apply Vl.mk (α := Nat) | apply Vl.mk (α := ByteArray) | apply Ge.mk (α := Row) | apply Ge.mk (α := SV) | apply Ge.mk (α := AV)); · exact rfl) | (refine And.intro rfl ?_) | ((with_reducible first | apply Vl.mk (α := List SV) | apply Vl.mk (α := Ef) | apply Vl.mk (α := TV) | apply Ge.mk (α := List SV) | apply Sg.mk | apply Sk.mk); · (first | exact setAll_eq rfl | exact sg_all _ rfl | exact sk_all _ rfl rfl | ((first | apply sg_fc | apply sk_fc | (apply fc_eq; (conv => arg 1; whnf); apply fc_some) | apply fc_eq); (repeat' (first | exact fc_ren (wsv_scal _) | exact fc_ren (by assumption) | ((conv => arg 1; whnf); first | exact fc_nil | apply fc_cons | exact fc_int | exact fc_bool | exact fc_n | exact fc_ns | exact fc_ptr | exact fc_sl | exact fc_str | exact fc_unk | exact fc_fn | apply fc_s | apply fc_agg | apply fc_ta | apply fc_tup | exact fc_an | apply fc_ac | exact fc_tu | exact fc_nat | exact fc_bo | exact fc_none | apply fc_some | apply fc_pair | apply fc_row | apply fc_ef))); (all_goals exact rfl)) | ((dsimp only [Res.ef, renT, renA, renS, renN, nwN, upN, renRow, List.map_cons, List.map_nil, List.length_cons, List.length_nil]); first | done | exact rfl) | (dsimp only [setAll, List.set_cons_zero, List.set_cons_succ, List.cons_append, List.nil_append]; exact rfl) | exact rfl)) | ((first | apply Br.mk | apply Gd.mk) <;> (intro hb; first | (exact absurd hb (by decide)) | exact Bool.noConfusion (hb.symm.trans (by assumption) : true = false) | exact Bool.noConfusion (hb.symm.trans (by assumption) : false = true) | (simp only [decide_eq_true_eq, decide_eq_false_iff_not, beq_iff_eq, bne_iff_ne, beq_eq_false_iff_ne, bne_eq_false_iff_eq, Bool.not_eq_true', Bool.not_eq_false', Int.not_lt, Int.not_le, ge_iff_le, gt_iff_lt, ne_eq, Classical.not_not] at hb; first | (exfalso; omega) | skip) | skip)))); (all_goals (try (conv => whnf)))
  all_goals first | (apply Fin.mk (m := [(0, some 0), (1, some 1)]); (focus exact rfl); (all_goals ((try (show HlS _ _ [] _)); first | ((repeat' (first | exact SVsM.nil | exact avsm_nil | exact svm_same rfl | exact svm_ptr rfl | exact svm_sl rfl | exact svm_slnil rfl | exact svsm_scal rfl | exact svsm_scal (wsv_scal _) | exact svsm_scal (by assumption) | exact hls_nil | apply SVsM.cons | apply tvm_a | apply tvm_tup | apply avm_agg | apply avm_s | apply avsm_cons | exact trivial | (refine hls_skip rfl ?_) | apply hls_none | apply hls_row | (refine rowmt_mk rfl rfl rfl rfl ?_) | exact rowmt_nil rfl rfl)); done) | exact rfl))) | trace_state
set_option maxHeartbeats 1000000 in
set_option maxRecDepth 100000 in
theorem mays_made_o1 (A : Nat) (hA : A < 4294967296) (L : Int) (l : List Mz) (N : Nat) (hN : l.length = N) (hN2 : N ≤ 30) (ls : List Int) (n : Nat) (hn : ls.length = n) (hr : n * 8 ≤ 140737488351232) (att : Int) (o : Mz) (a : Nat) (q : Int) (ha : a < 4294967296) (kN : Nat) (hk : att % (((blL (cpM 64 (codeL ls)) 64 (a % 256 / 4 * 4) 16).length : Int) + 1) = (kN : Int)) (hkK : kN < (blL (cpM 64 (codeL ls)) 64 (a % 256 / 4 * 4) 16).length) (h4 : bits .and .i64 q 4 = 4) (h8 : bits .and .i64 q 8 = 8) :
    Fn Try.prog 6 [.agg [.int .u32 A, .int .i64 L, .sl 0 0 N], .s (.bool false), .s (.sl 1 0 n), .s (.int .i64 att), .agg o.C, .s (.int .u32 a), .s (.int .i64 q)] [⟨false, 6, mzs l⟩, ⟨false, 1, isv .i64 ls⟩] (· = ⟨.a (.s (.bool true)), [], []⟩) := by
  have hcode := code_fn ls n hn hr
  have hyl : (codeL ls).length = n := by rw [codeL_len, hn]
  have hx := cpM_len 64 (codeL ls)
  have hxr := cpM_lt 64 (codeL ls) (codeL_lt ls)
  have hset := cpM_set 64 (codeL ls)
  have hsk := sk_take (codeL ls) n hyl
  have hsy := wsv_scal (codeL ls)
  have q1 : IntKind.u32.wrap ((a : Int) % 256 / 4 * 4) = ((a % 256 / 4 * 4 : Nat) : Int) := by rw [wu32 (by omega) (by omega)]; omega
  have hf := blL_facts (cpM 64 (codeL ls)) 64 (a % 256 / 4 * 4) 16 hxr
  have hAl : blA 64 (a % 256 / 4 * 4) 16 < 4294967296 := by unfold blA; split <;> omega
  obtain ⟨K, hK⟩ : ∃ K, (blL (cpM 64 (codeL ls)) 64 (a % 256 / 4 * 4) 16).length = K := ⟨_, rfl⟩
  have crb := rbuildA_fn (cpM 64 (codeL ls)) 64 (a % 256 / 4 * 4) 16 hx (by omega) (by omega) hxr K hK
  rw [hK] at hkK hk hf
  have hK16 := hf.1
  clear hf
  rw [← mzs_mcs] at crb
  obtain ⟨l2, hl2⟩ : ∃ l2, (blL (cpM 64 (codeL ls)) 64 (a % 256 / 4 * 4) 16).map Mi.z = l2 := ⟨_, rfl⟩
  rw [hl2] at crb
  have hlen2 : l2.length = K := by rw [← hl2, List.length_map, hK]
  clear hl2 hK
  generalize blA 64 (a % 256 / 4 * 4) 16 = B at *
  have cr1 := rnd_fn att ((K : Int) + 1) (by omega) (by omega)
  rw [hk] at cr1
  have q2 : IntKind.i64.wrap ((K : Int) + 1) = (K : Int) + 1 := wi64 (by omega) (by omega)
  have cr4 := rnd_fn q 4 (by omega) (by omega)
  have cr3 := rnd_fn q 3 (by omega) (by omega)
  have hr3 : 0 ≤ q % 3 ∧ q % 3 < 3 := by omega
  have x1 : 0 + ((kN : Nat) : Int).toNat * ty39.size = kN * 6 := by show 0 + ((kN : Nat) : Int).toNat * 6 = _; omega
  have x2 : 0 + 0 + ((kN : Nat) : Int).toNat * ty39.size = kN * 6 := by show 0 + 0 + ((kN : Nat) : Int).toNat * 6 = _; omega
  generalize q % 3 = r3 at *
  generalize q % 4 = r4 at *
  generalize hb8 : bits .and .i64 q 8 = b8 at *
  have q3 : IntKind.i64.wrap ((K : Int) + r3) = (K : Int) + r3 := wi64 (by omega) (by omega)
  have hs1 := mzs_setN l2 kN r4 (by omega)
  have hlm := mzs_len l2
  generalize hb4 : bits .and .i64 q 4 = b4 at *
  have hs2 := mzs_set (setN l2 kN r4) kN o (by rw [setN_len]; omega)
  have hlm2 := mzs_len (setN l2 kN r4)
  rw [setN_len] at hlm2
  unfold Mz.C at hs2
  obtain ⟨v, cm, crm⟩ := mayBoth B hAl ((K : Int) + r3) ((setN l2 kN r4).set kN o) K (by rw [List.length_set, setN_len]; exact hlen2) (by omega)
  have hsF := mzs_scal ((setN l2 kN r4).set kN o)
  have cf := frame_fn B hAl ((K : Int) + r3) K (mzs ((setN l2 kN r4).set kN o)) hsF
  have crf := rframe_fn B hAl ((K : Int) + r3) K (mzs ((setN l2 kN r4).set kN o)) hsF
  have hsc := isv_scal .i64 ls
  have hsb := mzs_scal l
  have cfw := few_fn A L N (mzs l) hsb
  rw [decide_eq_true (by omega)] at cfw
  have hsm := wsv_scal (cpM 64 (codeL ls))
  have hs2c := mzs_scal l2
  generalize wsv (cpM 64 (codeL ls)) = MM at *
  generalize hYT : wsv ((codeL ls).take 64) = YT at *
  generalize wsv (codeL ls) = YY at *
  generalize mzs l = LB at *
  generalize hLF : mzs ((setN l2 kN r4).set kN o) = LF at *
  generalize mzs (setN l2 kN r4) = L3 at *
  generalize mzs l2 = L2 at *
  generalize hLL : isv .i64 ls = LL at *
  unfold Mz.C
  refine fn_of_vc mixed tys_ok _ _ Try.func6 (by kernel_rfl) rfl Try.ntmps6 (by rw [Try.results6]) rfl ?_; dsimp only [argTm, argHl, Nat.zero_add, Nat.reduceAdd, List.length_nil, List.length_cons]
  (repeat' ((conv => whnf); first | ((with_reducible apply Vl.mk (α := Int)); · with_reducible first | exact q1 | exact q2 | exact q3 | exact hb8 | exact hb4)  |  ((first | apply Br.mk | apply Gd.mk) <;> (intro hb; first | (exact absurd hb (by decide)) | exact Bool.noConfusion (hb.symm.trans (by assumption) : true = false) | exact Bool.noConfusion (hb.symm.trans (by assumption) : false = true) | (exfalso; revert hb; simp only [beq_self_eq_true, Bool.and_true, Bool.and_self, reduceCtorEq, false_implies, bne_self_eq_false, imp_false, not_true_eq_false, not_false_eq_true, Bool.true_eq_false, Bool.false_eq_true]; done) | (simp only [decide_eq_true_eq, decide_eq_false_iff_not, beq_iff_eq, bne_iff_ne, beq_eq_false_iff_ne, bne_eq_false_iff_eq, Bool.not_eq_true', Bool.not_eq_false', Int.not_lt, Int.not_le, ge_iff_le, gt_iff_lt, ne_eq, Classical.not_not] at hb; first | (exfalso; omega) | skip) | skip))  |  (refine Eqs.mk _ (eqt_ok _ _ rfl _ _ _ rfl) ?_)  |  (refine vcall_pure (f := 16) (awake15_fn) rfl ?_)  |  (refine vcall_det (f := 22) cfw [⟨_, 0⟩] [(_, ⟨false, 6, LB⟩)] rfl ⟨rfl, trivial⟩ ⟨rfl, rowM_ro hsb, trivial⟩ ⟨rfl, noUp⟩ ?_)  |  (refine vcall_det (f := 8) new2_fn [] [] rfl trivial trivial ⟨rfl, noUp⟩ ?_)  |  (refine vcall_det (f := 17) hcode [⟨_, 0⟩] [(_, ⟨false, 1, LL⟩)] rfl ⟨rfl, trivial⟩ ⟨rfl, rowM_ro hsc, trivial⟩ ⟨rfl, noUp⟩ ?_)  |  (apply Sk.mk; · exact hsk)  |  (apply Sd.mk; · first | (refine ⟨rfl, ?_⟩; show 0 + YT.length ≤ (wsv (zer 64)).length; rw [hsk.1]; show 0 + min n 64 * 1 ≤ 64; omega) | (refine ⟨rfl, rfl, rfl, ?_⟩; show kN * 6 + 5 + 1 ≤ L2.length; omega) | (show kN < K; omega) | (refine ⟨rfl, rfl, rfl, ?_⟩; show kN * 6 + 6 ≤ L3.length; omega))  |  ((with_reducible apply Vl.mk (α := Nat)); · first | with_reducible exact x1 | exact x2)  |  ((with_reducible apply Vl.mk (α := List SV)); · first | with_reducible exact hs1 | exact hs1 | with_reducible exact hs2 | exact hs2 | exact hset)  |  (refine vcall_det (f := 19) crb [⟨_, 0⟩] [(_, ⟨true, 1, MM⟩)] rfl ⟨rfl, trivial⟩ ⟨rfl, rowM_ro hsm, trivial⟩ ⟨rfl, noUp⟩ ?_)  |  (refine vcall_pure (f := 7) (cr1) rfl ?_)  |  (refine vcall_pure (f := 7) (cr4) rfl ?_)  |  (refine vcall_pure (f := 7) (cr3) rfl ?_)  |  (refine vcall_det (f := 13) cm [⟨_, 0⟩] [(_, ⟨true, 6, LF⟩)] rfl ⟨rfl, trivial⟩ ⟨rfl, rowM_ro hsF, trivial⟩ ⟨rfl, noUp⟩ ?_)  |  (refine vcall_det (f := 23) crm [⟨_, 0⟩] [(_, ⟨true, 6, LF⟩)] rfl ⟨rfl, trivial⟩ ⟨rfl, rowM_ro hsF, trivial⟩ ⟨rfl, noUp⟩ ?_)  |  (refine vcall_det (f := 20) cf [⟨_, 0⟩] [(_, ⟨true, 6, LF⟩)] rfl ⟨rfl, trivial⟩ ⟨rfl, rowM_ro hsF, trivial⟩ ⟨rfl, noUp⟩ ?_)  |  (refine vcall_det (f := 21) crf [⟨_, 0⟩] [(_, ⟨true, 6, LF⟩)] rfl ⟨rfl, trivial⟩ ⟨rfl, rowM_ro hsF, trivial⟩ ⟨rfl, noUp⟩ ?_) | (with_reducible apply sd_draw; · kernel_rfl) | (apply Sd.mk; · first | exact rfl | trivial | omega | (repeat' apply And.intro) <;> first | exact rfl | exact Nat.le_of_ble_eq_true rfl | omega | decide) | ((with_reducible apply Vl.mk (α := Int)); · (first | (with_reducible exact bits_keep _ _ _ _) | ((rewrite [tdiv_pos]); (focus (first | exact wi64 (by omega) (by omega) | exact wu32 (by omega) (by omega) | exact wi32 (by omega) (by omega))); omega) | exact tmod_pos (by omega) | exact wi64 (by omega) (by omega) | exact wu32 (by omega) (by omega) | exact wu32' _ | exact wu8 (by omega) (by omega) | exact wu64 (by omega) (by omega) | exact wi32 (by omega) (by omega) | rfl)) | ((with_reducible first | apply Vl.mk (α := Bool) | apply Vl.mk (α := Nat) | apply Vl.mk (α := ByteArray) | apply Ge.mk (α := Row) | apply Ge.mk (α := SV) | apply Ge.mk (α := AV)); · exact rfl) | (refine And.intro rfl ?_) | ((with_reducible first | apply Vl.mk (α := List SV) | apply Vl.mk (α := Ef) | apply Vl.mk (α := TV) | apply Ge.mk (α := List SV) | apply Sg.mk | apply Sk.mk); · (first | exact setAll_eq rfl | exact sg_all _ rfl | exact sk_all _ rfl rfl | ((first | apply sg_fc | apply sk_fc | (apply fc_eq; (conv => arg 1; whnf); apply fc_some) | apply fc_eq); (repeat' (first | exact fc_ren (wsv_scal _) | exact fc_ren (by assumption) | ((conv => arg 1; whnf); first | exact fc_nil | apply fc_cons | exact fc_int | exact fc_bool | exact fc_n | exact fc_ns | exact fc_ptr | exact fc_sl | exact fc_str | exact fc_unk | exact fc_fn | apply fc_s | apply fc_agg | apply fc_ta | apply fc_tup | exact fc_an | apply fc_ac | exact fc_tu | exact fc_nat | exact fc_bo | exact fc_none | apply fc_some | apply fc_pair | apply fc_row | apply fc_ef))); (all_goals exact rfl)) | ((dsimp only [Res.ef, renT, renA, renS, renN, nwN, upN, renRow, List.map_cons, List.map_nil, List.length_cons, List.length_nil]); first | done | exact rfl) | (dsimp only [setAll, List.set_cons_zero, List.set_cons_succ, List.cons_append, List.nil_append]; exact rfl) | exact rfl)) | ((first | apply Br.mk | apply Gd.mk) <;> (intro hb; first | (exact absurd hb (by decide)) | exact Bool.noConfusion (hb.symm.trans (by assumption) : true = false) | exact Bool.noConfusion (hb.symm.trans (by assumption) : false = true) | (simp only [decide_eq_true_eq, decide_eq_false_iff_not, beq_iff_eq, bne_iff_ne, beq_eq_false_iff_ne, bne_eq_false_iff_eq, Bool.not_eq_true', Bool.not_eq_false', Int.not_lt, Int.not_le, ge_iff_le, gt_iff_lt, ne_eq, Classical.not_not] at hb; first | (exfalso; omega) | skip) | skip)))); (all_goals (try (conv => whnf)))
  all_goals first | (apply Fin.mk (m := [(0, some 0), (1, some 1)]); (focus exact rfl); (all_goals ((try (show HlS _ _ [] _)); first | ((repeat' (first | exact SVsM.nil | exact avsm_nil | exact svm_same rfl | exact svm_ptr rfl | exact svm_sl rfl | exact svm_slnil rfl | exact svsm_scal rfl | exact svsm_scal (wsv_scal _) | exact svsm_scal (by assumption) | exact hls_nil | apply SVsM.cons | apply tvm_a | apply tvm_tup | apply avm_agg | apply avm_s | apply avsm_cons | exact trivial | (refine hls_skip rfl ?_) | apply hls_none | apply hls_row | (refine rowmt_mk rfl rfl rfl rfl ?_) | exact rowmt_nil rfl rfl)); done) | exact rfl))) | trace_state
theorem mays15_fn (A : Nat) (hA : A < 4294967296) (L : Int) (l : List Mz) (N : Nat) (hN : l.length = N) (hN2 : N ≤ 9223372036854775807) (raw : Bool) (ls : List Int) (n : Nat) (hn : ls.length = n) (hr : n * 8 ≤ 140737488351232) (att : Int) (o : Mz) (a : Nat) (q : Int) (ha : a < 4294967296) :
    Fn Try.prog 6 [.agg [.int .u32 A, .int .i64 L, .sl 0 0 N], .s (.bool raw), .s (.sl 1 0 n), .s (.int .i64 att), .agg o.C, .s (.int .u32 a), .s (.int .i64 q)] [⟨false, 6, mzs l⟩, ⟨false, 1, isv .i64 ls⟩] (· = ⟨.a (.s (.bool true)), [], []⟩) := by
  by_cases h30 : 30 < N
  · exact mays_big A hA L l N hN hN2 h30 raw ls n hn hr att o a q ha
  cases raw with
  | true => exact mays_raw A hA L l N hN (by omega) ls n hn hr att o a q ha
  | false =>
    obtain ⟨kN, hk⟩ : ∃ kN : Nat, att % (((blL (cpM 64 (codeL ls)) 64 (a % 256 / 4 * 4) 16).length : Int) + 1) = (kN : Int) := ⟨(att % (((blL (cpM 64 (codeL ls)) 64 (a % 256 / 4 * 4) 16).length : Int) + 1)).toNat, by rw [Int.toNat_of_nonneg (Int.emod_nonneg _ (by omega))]⟩
    by_cases hkK : kN < (blL (cpM 64 (codeL ls)) 64 (a % 256 / 4 * 4) 16).length
    · by_cases h4 : bits .and .i64 q 4 = 4
      · by_cases h8 : bits .and .i64 q 8 = 8
        · exact mays_made_o1 A hA L l N hN (by omega) ls n hn hr att o a q ha kN hk hkK h4 h8
        · exact mays_made_o0 A hA L l N hN (by omega) ls n hn hr att o a q ha kN hk hkK h4 h8
      · by_cases h8 : bits .and .i64 q 8 = 8
        · exact mays_made_n1 A hA L l N hN (by omega) ls n hn hr att o a q ha kN hk hkK h4 h8
        · exact mays_made_n0 A hA L l N hN (by omega) ls n hn hr att o a q ha kN hk hkK h4 h8
    · by_cases h8 : bits .and .i64 q 8 = 8
      · exact mays_made_no1 A hA L l N hN (by omega) ls n hn hr att o a q ha kN hk hkK h8
      · exact mays_made_no0 A hA L l N hN (by omega) ls n hn hr att o a q ha kN hk hkK h8
theorem va_micro (ρ : Nm) (o a b c : Int) (k : Nat) (n : Int) : VA ρ (.agg (Mz.C ⟨o, a, b, c, k, n⟩)) (.agg #[.int .i64 o, .int .i64 a, .int .i64 b, .int .i64 c, .int .u32 k, .int .i64 n]) :=
  ⟨_, rfl, rfl, fun k s hs => by
    match k, hs with
    | 0, hs => injection hs with hs; subst hs; exact ⟨_, rfl, rfl⟩
    | 1, hs => injection hs with hs; subst hs; exact ⟨_, rfl, rfl⟩
    | 2, hs => injection hs with hs; subst hs; exact ⟨_, rfl, rfl⟩
    | 3, hs => injection hs with hs; subst hs; exact ⟨_, rfl, rfl⟩
    | 4, hs => injection hs with hs; subst hs; exact ⟨_, rfl, rfl⟩
    | 5, hs => injection hs with hs; subst hs; exact ⟨_, rfl, rfl⟩
    | k + 6, hs => simp [Mz.C] at hs⟩
end Go.Proofs.Ytppjiheebpabjaa
