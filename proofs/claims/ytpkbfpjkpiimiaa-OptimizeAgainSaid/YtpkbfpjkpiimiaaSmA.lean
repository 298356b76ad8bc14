/- OptimizeSame. -/
import Derived.Test.YtpkbfpjkpiimiaaRnC
namespace Go.Proofs.Ytpkbfpjkpiimiaa
open Go Go.RowKit
set_option linter.unusedSimpArgs false
set_option linter.unusedVariables false

def ks16 : List SK := [.int, .int, .int, .int, .int, .int, .int, .int, .int, .int, .int, .int, .int, .int, .int, .int]
theorem eqC_self : ∀ y : List Nat, eqCells (List.replicate y.length .int) (wsv y) (wsv y) = some true
  | [] => rfl
  | a :: y => by
    have ih := eqC_self y
    have e1 : wsv (a :: y) = SV.int .u32 (a : Nat) :: wsv y := rfl
    rw [List.length_cons, List.replicate_succ, e1]
    have e2 : eqS .int (SV.int .u32 (a : Nat)) (SV.int .u32 (a : Nat)) = some true := by
      show some (((a : Nat) : Int) == ((a : Nat) : Int)) = some true
      simp
    unfold eqCells
    rw [e2, ih]; rfl
theorem eq16 (y : List Nat) (h : y.length = 16) : eqCells ks16 (wsv y) (wsv y) = some true := by
  have := eqC_self y
  rw [h] at this
  exact this
theorem args2 {f : AV → AV} {a a' b b' : AV} (h1 : a = f a') (h2 : b = f b') : [a, b] = [a', b'].map f := by rw [h1, h2]; rfl
theorem runL_len : ∀ (l : List Mi) (x : List Nat), (runL l x).length = x.length
  | [], _ => rfl
  | m :: l, x => by show (runL l (stM m x)).length = _; rw [runL_len l, stM_len]
set_option maxHeartbeats 1000000 in
set_option maxRecDepth 100000 in
theorem sameA_fn (ls : List Int) (n : Nat) (hn : ls.length = n) (hn2 : n ≤ 9223372036854775807) (h : n > 30 ∨ n = 0) (x : List Nat) (hx : x.length = 16) :
    Fn Try.prog 5 [.s (.sl 0 0 n), .agg (wsv x)] [⟨false, 1, isv .i64 ls⟩] (· = ⟨.a (.s (.bool true)), [], []⟩) := by
  have hsc := isv_scal .i64 ls
  have xk := wsv_known x
  generalize isv .i64 ls = LL at *
  generalize wsv x = X at *
  refine fn_of_vc mixed tys_ok _ _ Try.func5 (by kernel_rfl) rfl Try.ntmps5 (by rw [Try.results5]) rfl ?_; dsimp only [argTm, argHl, Nat.zero_add, Nat.reduceAdd, List.length_nil, List.length_cons]
  (repeat' ((conv => whnf); first | ((first | apply Br.mk | apply Gd.mk) <;> (intro hb; first | (exact absurd hb (by decide)) | exact Bool.noConfusion (hb.symm.trans (by assumption) : true = false) | exact Bool.noConfusion (hb.symm.trans (by assumption) : false = true) | (exfalso; revert hb; simp only [beq_self_eq_true, Bool.and_true, Bool.and_self, reduceCtorEq, false_implies, bne_self_eq_false, imp_false, not_true_eq_false, not_false_eq_true, Bool.true_eq_false, Bool.false_eq_true]; done) | (simp only [decide_eq_true_eq, decide_eq_false_iff_not, beq_iff_eq, bne_iff_ne, beq_eq_false_iff_ne, bne_eq_false_iff_eq, Bool.not_eq_true', Bool.not_eq_false', Int.not_lt, Int.not_le, ge_iff_le, gt_iff_lt, ne_eq, Classical.not_not] at hb; first | (exfalso; omega) | skip) | skip))  |  (refine Eqs.mk _ (eqt_ok _ _ rfl _ _ _ rfl) ?_)  |  (apply Sd.mk; · exact xk)  |  (refine vcall_pure (f := 10) (awake16_fn) rfl ?_) | (with_reducible apply sd_draw; · kernel_rfl) | (apply Sd.mk; · first | exact rfl | trivial | omega | (repeat' apply And.intro) <;> first | exact rfl | exact Nat.le_of_ble_eq_true rfl | omega | decide) | ((with_reducible apply Vl.mk (α := Int)); · (first | (with_reducible exact bits_keep _ _ _ _) | ((rewrite [tdiv_pos]); (focus (first | exact wi64 (by omega) (by omega) | exact wu32 (by omega) (by omega) | exact wi32 (by omega) (by omega))); omega) | exact tmod_pos (by omega) | exact wi64 (by omega) (by omega) | exact wu32 (by omega) (by omega) | exact wu32' _ | exact wu8 (by omega) (by omega) | exact wu64 (by omega) (by omega) | exact wi32 (by omega) (by omega) | rfl)) | ((with_reducible first | apply Vl.mk (α := Bool) | apply Vl.mk (α := Nat) | apply Vl.mk (α := ByteArray) | apply Ge.mk (α := Row) | apply Ge.mk (α := SV) | apply Ge.mk (α := AV)); · exact rfl) | (refine And.intro rfl ?_) | ((with_reducible first | apply Vl.mk (α := List SV) | apply Vl.mk (α := Ef) | apply Vl.mk (α := TV) | apply Ge.mk (α := List SV) | apply Sg.mk | apply Sk.mk); · (first | exact setAll_eq rfl | exact sg_all _ rfl | exact sk_all _ rfl rfl | ((first | apply sg_fc | apply sk_fc | (apply fc_eq; (conv => arg 1; whnf); apply fc_some) | apply fc_eq); (repeat' (first | exact fc_ren (wsv_scal _) | exact fc_ren (by assumption) | ((conv => arg 1; whnf); first | exact fc_nil | apply fc_cons | exact fc_int | exact fc_bool | exact fc_n | exact fc_ns | exact fc_ptr | exact fc_sl | exact fc_str | exact fc_unk | exact fc_fn | apply fc_s | apply fc_agg | apply fc_ta | apply fc_tup | exact fc_an | apply fc_ac | exact fc_tu | exact fc_nat | exact fc_bo | exact fc_none | apply fc_some | apply fc_pair | apply fc_row | apply fc_ef))); (all_goals exact rfl)) | ((dsimp only [Res.ef, renT, renA, renS, renN, nwN, upN, renRow, List.map_cons, List.map_nil, List.length_cons, List.length_nil]); first | done | exact rfl) | (dsimp only [setAll, List.set_cons_zero, List.set_cons_succ, List.cons_append, List.nil_append]; exact rfl) | exact rfl)) | ((first | apply Br.mk | apply Gd.mk) <;> (intro hb; first | (exact absurd hb (by decide)) | exact Bool.noConfusion (hb.symm.trans (by assumption) : true = false) | exact Bool.noConfusion (hb.symm.trans (by assumption) : false = true) | (simp only [decide_eq_true_eq, decide_eq_false_iff_not, beq_iff_eq, bne_iff_ne, beq_eq_false_iff_ne, bne_eq_false_iff_eq, Bool.not_eq_true', Bool.not_eq_false', Int.not_lt, Int.not_le, ge_iff_le, gt_iff_lt, ne_eq, Classical.not_not] at hb; first | (exfalso; omega) | skip) | skip)))); (all_goals (try (conv => whnf)))
  all_goals (apply Fin.mk (m := [(0, some 0)]); (focus exact rfl); (all_goals ((try (show HlS _ _ [] _)); first | ((repeat' (first | exact SVsM.nil | exact avsm_nil | exact svm_same rfl | exact svm_ptr rfl | exact svm_sl rfl | exact svm_slnil rfl | exact svsm_scal rfl | exact svsm_scal (wsv_scal _) | exact svsm_scal (by assumption) | exact hls_nil | apply SVsM.cons | apply tvm_a | apply tvm_tup | apply avm_agg | apply avm_s | apply avsm_cons | exact trivial | (refine hls_skip rfl ?_) | apply hls_none | apply hls_row | (refine rowmt_mk rfl rfl rfl rfl ?_) | exact rowmt_nil rfl rfl)); done) | exact rfl)))
set_option maxHeartbeats 1000000 in
set_option maxRecDepth 100000 in
theorem sameB_fn (ls : List Int) (n : Nat) (hn : ls.length = n) (h30 : n ≤ 30) (h0 : 0 < n) (x : List Nat) (hx : x.length = 16) (hxr : ∀ y ∈ x, y < 4294967296) :
    Fn Try.prog 5 [.s (.sl 0 0 n), .agg (wsv x)] [⟨false, 1, isv .i64 ls⟩] (· = ⟨.a (.s (.bool true)), [], []⟩) := by
  have hmade := made_fn ls n hn (by omega) 0
  have hpur := madeL_pur ls
  have e0 : (0 : Int) % 3 = 0 := by decide
  rw [e0] at hmade
  have hlen := madeL_len 0 16 ls
  have hpos := hlen.2 (by omega) (by omega)
  have hmok := fun m hm => (madeL_ok 0 16 ls m hm).1
  have hmay := made_may 0 ls (by omega)
  generalize madeL 0 16 ls = l at *
  obtain ⟨NB, hNB⟩ : ∃ N, l.length = N := ⟨_, rfl⟩
  obtain ⟨NC, hNC⟩ : ∃ N, (fldL l).length = N := ⟨_, rfl⟩
  rw [hNB] at hmade hmay hlen hpos
  have hle : NC ≤ NB := by rw [← hNB, ← hNC]; exact fldL_le l
  have hmayc := fldL_may 0 NB l (by omega) hmok hmay
  have hxl0 : (x.set 0 0).length = 16 := by simp [hx]
  have hf := runL_fld l (x.set 0 0) hpur hmok (set_rng hxr (by omega)) hxl0 (by rw [getD_set _ _ _ _ _ (by omega), if_pos rfl])
  have hpb := pureV_of 0 NB l hmay hpur
  have hpc := pureV_of 0 NB (fldL l) hmayc hf.2
  have cfold := foldI_fn 0 (by omega) NB l NB NC hNB (by omega) hpos hmok hmay hNC
  have cpc := pure_fn 0 (by omega) NB ((fldL l).map Mi.z) NC (by rw [List.length_map]; exact hNC) (by omega)
  rw [hpc, mzs_mcs] at cpc
  have crb := orun_fn 0 (by omega) NB l NB hNB (by omega) x hx hxr hpb hmok
  have crr := rrun_fn 0 (by omega) NB l NB hNB (by omega) x hx hxr hpb hmok
  have crc := orun_fn 0 (by omega) NB (fldL l) NC hNC (by omega) x hx hxr hpc (fldL_ok l hmok)
  rw [hf.1] at crc
  have ccb := cost_fn 0 NB (mcs l) (mcs_scal l) NB
  have ccc := cost_fn 0 NB (mcs (fldL l)) (mcs_scal _) NC
  have hsc := isv_scal .i64 ls
  have hsb := mcs_scal l
  have hscc := mcs_scal (fldL l)
  have hRl : (runL l (x.set 0 0)).length = 16 := by rw [runL_len, hxl0]
  have hRs := wsv_scal (runL l (x.set 0 0))
  have hRe := eq16 _ hRl
  have xk := wsv_known x
  have xsc := wsv_scal x
  have xl : (wsv x).length = 16 := by simp [hx]
  generalize wsv (runL l (x.set 0 0)) = RR at *
  generalize mcs (fldL l) = LC at *
  generalize mcs l = LB at *
  generalize isv .i64 ls = LL at *
  generalize wsv x = X at *
  clear hpb hpc hf hmay hmayc hpur hmok
  refine fn_of_vc mixed tys_ok _ _ Try.func5 (by kernel_rfl) rfl Try.ntmps5 (by rw [Try.results5]) rfl ?_; dsimp only [argTm, argHl, Nat.zero_add, Nat.reduceAdd, List.length_nil, List.length_cons]
  (repeat' ((conv => whnf); first | (refine Eqs.mk true (eqt_ok _ ks16 rfl _ _ _ (by with_reducible exact hRe)) ?_)  |  ((first | apply Br.mk | apply Gd.mk) <;> (intro hb; first | (exact absurd hb (by decide)) | exact Bool.noConfusion (hb.symm.trans (by assumption) : true = false) | exact Bool.noConfusion (hb.symm.trans (by assumption) : false = true) | (exfalso; revert hb; simp only [beq_self_eq_true, Bool.and_true, Bool.and_self, reduceCtorEq, false_implies, bne_self_eq_false, imp_false, not_true_eq_false, not_false_eq_true, Bool.true_eq_false, Bool.false_eq_true]; done) | (simp only [decide_eq_true_eq, decide_eq_false_iff_not, beq_iff_eq, bne_iff_ne, beq_eq_false_iff_ne, bne_eq_false_iff_eq, Bool.not_eq_true', Bool.not_eq_false', Int.not_lt, Int.not_le, ge_iff_le, gt_iff_lt, ne_eq, Classical.not_not] at hb; first | (exfalso; omega) | skip) | skip))  |  (refine Eqs.mk _ (eqt_ok _ _ rfl _ _ _ rfl) ?_)  |  (apply Sd.mk; · first | exact xk)  |  (apply Sg.mk; · exact sg_all X xl)  |  (refine vcall_det (f := 11) hmade [⟨0, 0⟩] [(0, ⟨false, 1, LL⟩)] rfl ⟨rfl, trivial⟩ ⟨rfl, rowM_ro hsc, trivial⟩ ⟨rfl, noUp⟩ ?_)  |  (refine vcall_det (f := 12) cfold [⟨_, 0⟩] [(_, ⟨true, 6, LB⟩)] rfl ⟨rfl, trivial⟩ ⟨rfl, rowM_ro hsb, trivial⟩ ⟨rfl, noUp⟩ ?_)  |  (refine vcall_det (f := 16) cpc [⟨_, 0⟩] [(_, ⟨true, 6, LC⟩)] rfl ⟨rfl, trivial⟩ ⟨rfl, rowM_ro hscc, trivial⟩ ⟨rfl, noUp⟩ ?_)  |  (refine vcall_det (f := 18) crc [⟨_, 0⟩] [(_, ⟨true, 6, LC⟩)] (args2 rfl (congrArg AV.agg (ren_scal xsc).symm)) ⟨rfl, trivial⟩ ⟨rfl, rowM_ro hscc, trivial⟩ ⟨rfl, noUp⟩ ?_)  |  (refine vcall_det (f := 18) crb [⟨_, 0⟩] [(_, ⟨true, 6, LB⟩)] (args2 rfl (congrArg AV.agg (ren_scal xsc).symm)) ⟨rfl, trivial⟩ ⟨rfl, rowM_ro hsb, trivial⟩ ⟨rfl, noUp⟩ ?_)  |  (refine vcall_det (f := 19) crr [⟨_, 0⟩] [(_, ⟨true, 6, LB⟩)] (args2 rfl (congrArg AV.agg (ren_scal xsc).symm)) ⟨rfl, trivial⟩ ⟨rfl, rowM_ro hsb, trivial⟩ ⟨rfl, noUp⟩ ?_)  |  (refine vcall_det (f := 15) ccb [⟨_, 0⟩] [(_, ⟨true, 6, LB⟩)] rfl ⟨rfl, trivial⟩ ⟨rfl, rowM_ro hsb, trivial⟩ ⟨rfl, noUp⟩ ?_)  |  (refine vcall_det (f := 15) ccc [⟨_, 0⟩] [(_, ⟨true, 6, LC⟩)] rfl ⟨rfl, trivial⟩ ⟨rfl, rowM_ro hscc, trivial⟩ ⟨rfl, noUp⟩ ?_)  |  (refine vcall_pure (f := 10) (awake16_fn) rfl ?_) | (with_reducible apply sd_draw; · kernel_rfl) | (apply Sd.mk; · first | exact rfl | trivial | omega | (repeat' apply And.intro) <;> first | exact rfl | exact Nat.le_of_ble_eq_true rfl | omega | decide) | ((with_reducible apply Vl.mk (α := Int)); · (first | (with_reducible exact bits_keep _ _ _ _) | ((rewrite [tdiv_pos]); (focus (first | exact wi64 (by omega) (by omega) | exact wu32 (by omega) (by omega) | exact wi32 (by omega) (by omega))); omega) | exact tmod_pos (by omega) | exact wi64 (by omega) (by omega) | exact wu32 (by omega) (by omega) | exact wu32' _ | exact wu8 (by omega) (by omega) | exact wu64 (by omega) (by omega) | exact wi32 (by omega) (by omega) | rfl)) | ((with_reducible first | apply Vl.mk (α := Bool) | apply Vl.mk (α := Nat) | apply Vl.mk (α := ByteArray) | apply Ge.mk (α := Row) | apply Ge.mk (α := SV) | apply Ge.mk (α := AV)); · exact rfl) | (refine And.intro rfl ?_) | ((with_reducible first | apply Vl.mk (α := List SV) | apply Vl.mk (α := Ef) | apply Vl.mk (α := TV) | apply Ge.mk (α := List SV) | apply Sg.mk | apply Sk.mk); · (first | exact setAll_eq rfl | exact sg_all _ rfl | exact sk_all _ rfl rfl | ((first | apply sg_fc | apply sk_fc | (apply fc_eq; (conv => arg 1; whnf); apply fc_some) | apply fc_eq); (repeat' (first | exact fc_ren (wsv_scal _) | exact fc_ren (by assumption) | ((conv => arg 1; whnf); first | exact fc_nil | apply fc_cons | exact fc_int | exact fc_bool | exact fc_n | exact fc_ns | exact fc_ptr | exact fc_sl | exact fc_str | exact fc_unk | exact fc_fn | apply fc_s | apply fc_agg | apply fc_ta | apply fc_tup | exact fc_an | apply fc_ac | exact fc_tu | exact fc_nat | exact fc_bo | exact fc_none | apply fc_some | apply fc_pair | apply fc_row | apply fc_ef))); (all_goals exact rfl)) | ((dsimp only [Res.ef, renT, renA, renS, renN, nwN, upN, renRow, List.map_cons, List.map_nil, List.length_cons, List.length_nil]); first | done | exact rfl) | (dsimp only [setAll, List.set_cons_zero, List.set_cons_succ, List.cons_append, List.nil_append]; exact rfl) | exact rfl)) | ((first | apply Br.mk | apply Gd.mk) <;> (intro hb; first | (exact absurd hb (by decide)) | exact Bool.noConfusion (hb.symm.trans (by assumption) : true = false) | exact Bool.noConfusion (hb.symm.trans (by assumption) : false = true) | (simp only [decide_eq_true_eq, decide_eq_false_iff_not, beq_iff_eq, bne_iff_ne, beq_eq_false_iff_ne, bne_eq_false_iff_eq, Bool.not_eq_true', Bool.not_eq_false', Int.not_lt, Int.not_le, ge_iff_le, gt_iff_lt, ne_eq, Classical.not_not] at hb; first | (exfalso; omega) | skip) | skip)))); (all_goals (try (conv => whnf)))
  all_goals first | (apply Fin.mk (m := [(0, some 0)]); (focus exact rfl); (all_goals ((try (show HlS _ _ [] _)); first | ((repeat' (first | exact SVsM.nil | exact avsm_nil | exact svm_same rfl | exact svm_ptr rfl | exact svm_sl rfl | exact svm_slnil rfl | exact svsm_scal rfl | exact svsm_scal (wsv_scal _) | exact svsm_scal (by assumption) | exact hls_nil | apply SVsM.cons | apply tvm_a | apply tvm_tup | apply avm_agg | apply avm_s | apply avsm_cons | exact trivial | (refine hls_skip rfl ?_) | apply hls_none | apply hls_row | (refine rowmt_mk rfl rfl rfl rfl ?_) | exact rowmt_nil rfl rfl)); done) | exact rfl))) | trace_state
theorem same16_fn (ls : List Int) (n : Nat) (hn : ls.length = n) (hn2 : n ≤ 9223372036854775807) (x : List Nat) (hx : x.length = 16) (hxr : ∀ y ∈ x, y < 4294967296) :
    Fn Try.prog 5 [.s (.sl 0 0 n), .agg (wsv x)] [⟨false, 1, isv .i64 ls⟩] (· = ⟨.a (.s (.bool true)), [], []⟩) := by
  by_cases h : n > 30 ∨ n = 0
  · exact sameA_fn ls n hn hn2 h x hx
  · exact sameB_fn ls n hn (by omega) (by omega) x hx hxr
end Go.Proofs.Ytpkbfpjkpiimiaa
