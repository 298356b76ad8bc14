/- OptimizeRuns. -/
import Derived.Test.YtpkbfpjkpiimiaaSmA
namespace Go.Proofs.Ytpkbfpjkpiimiaa
open Go Go.RowKit
set_option linter.unusedSimpArgs false
set_option linter.unusedVariables false

theorem toMi : ∀ (l : List Mz) (s L : Int), (∀ m ∈ l, m.k < 4294967296) → maySum l s = some L → ∃ l' : List Mi, l'.map Mi.z = l ∧ ∀ m ∈ l', MiOk m
  | [], _, _, _, _ => ⟨[], rfl, fun m h => by cases h⟩
  | m :: l, s, L, hk, h => by
    rw [maySum] at h
    split at h
    · rename_i ho
      obtain ⟨l', h1, h2⟩ := toMi l _ L (fun q hq => hk q (by simp [hq])) h
      unfold okM rgB at ho
      simp only [Bool.and_eq_true, decide_eq_true_eq] at ho
      have hkm := hk m (by simp)
      obtain ⟨o, a, b, c, k, n⟩ := m
      dsimp only at ho hkm
      refine ⟨⟨o, a.toNat, b.toNat, c.toNat, k, n⟩ :: l', ?_, fun q hq => ?_⟩
      · rw [List.map_cons, h1]
        congr 1
        show Mz.mk o (a.toNat : Int) (b.toNat : Int) (c.toNat : Int) k n = _
        rw [Int.toNat_of_nonneg (by omega), Int.toNat_of_nonneg (by omega), Int.toNat_of_nonneg (by omega)]
      · rcases List.mem_cons.1 hq with e | e
        · subst e; exact ⟨by dsimp only; omega, by dsimp only; omega, by dsimp only; omega, hkm⟩
        · exact h2 q e
    · cases h
/-- Both sides compute the same of any block. -/
theorem runAny (A : Nat) (hA : A < 4294967296) (L : Int) (l : List Mz) (N : Nat) (hN : l.length = N) (hN2 : N ≤ 1000000) (hk : ∀ m ∈ l, m.k < 4294967296) (x : List Nat) (hx : x.length = 16) (hxr : ∀ y ∈ x, y < 4294967296) :
    ∃ R : List Nat, R.length = 16 ∧
      Fn Try.prog 18 [.agg [.int .u32 A, .int .i64 L, .sl 0 0 N], .agg (wsv x)] [⟨false, 6, mzs l⟩] (· = ⟨.a (.agg (wsv R)), [], []⟩) ∧
      Fn Try.prog 19 [.agg [.int .u32 A, .int .i64 L, .sl 0 0 N], .agg (wsv x)] [⟨false, 6, mzs l⟩] (· = ⟨.a (.agg (wsv R)), [], []⟩) := by
  cases hp : pureV A L l with
  | false => exact ⟨x.set 0 0, by simp [hx], orunN_fn A hA L l N hN hN2 x hx hp, rrunN_fn A hA L l N hN hN2 x hx hp⟩
  | true =>
    have hm : mayV A L l = true := by unfold pureV at hp; exact (Bool.and_eq_true _ _ ▸ hp).1
    obtain ⟨l', rfl, hok⟩ := toMi l 0 L hk ((mayV_iff _ _ _).1 hm).2
    rw [mzs_mcs]
    rw [List.length_map] at hN
    exact ⟨runL l' (x.set 0 0), by rw [runL_len]; simp [hx], orun_fn A hA L l' N hN hN2 x hx hxr hp hok, rrun_fn A hA L l' N hN hN2 x hx hxr hp hok⟩
set_option maxHeartbeats 1000000 in
set_option maxRecDepth 100000 in
theorem runsA_fn (A : Nat) (L : Int) (l : List Mz) (N : Nat) (raw : Bool) (ls : List Int) (n : Nat) (hn2 : n ≤ 9223372036854775807) (hN2 : N ≤ 9223372036854775807) (h : N > 30 ∨ n > 30) (kinds : Int) (x : List Nat) (hx : x.length = 16) :
    Fn Try.prog 4 [.agg [.int .u32 A, .int .i64 L, .sl 0 0 N], .s (.bool raw), .s (.sl 1 0 n), .s (.int .i64 kinds), .agg (wsv x)] [⟨false, 6, mzs l⟩, ⟨false, 1, isv .i64 ls⟩] (· = ⟨.a (.s (.bool true)), [], []⟩) := by
  have hsc := isv_scal .i64 ls
  have hsb := mzs_scal l
  have xk := wsv_known x
  generalize mzs l = LB at *
  generalize isv .i64 ls = LL at *
  generalize wsv x = X at *
  refine fn_of_vc mixed tys_ok _ _ Try.func4 (by kernel_rfl) rfl Try.ntmps4 (by rw [Try.results4]) rfl ?_; dsimp only [argTm, argHl, Nat.zero_add, Nat.reduceAdd, List.length_nil, List.length_cons]
  (repeat' ((conv => whnf); first | ((first | apply Br.mk | apply Gd.mk) <;> (intro hb; first | (exact absurd hb (by decide)) | exact Bool.noConfusion (hb.symm.trans (by assumption) : true = false) | exact Bool.noConfusion (hb.symm.trans (by assumption) : false = true) | (exfalso; revert hb; simp only [beq_self_eq_true, Bool.and_true, Bool.and_self, reduceCtorEq, false_implies, bne_self_eq_false, imp_false, not_true_eq_false, not_false_eq_true, Bool.true_eq_false, Bool.false_eq_true]; done) | (simp only [decide_eq_true_eq, decide_eq_false_iff_not, beq_iff_eq, bne_iff_ne, beq_eq_false_iff_ne, bne_eq_false_iff_eq, Bool.not_eq_true', Bool.not_eq_false', Int.not_lt, Int.not_le, ge_iff_le, gt_iff_lt, ne_eq, Classical.not_not] at hb; first | (exfalso; omega) | skip) | skip))  |  (refine Eqs.mk _ (eqt_ok _ _ rfl _ _ _ rfl) ?_)  |  (apply Sd.mk; · exact xk)  |  (refine vcall_pure (f := 10) (awake16_fn) rfl ?_) | (with_reducible apply sd_draw; · kernel_rfl) | (apply Sd.mk; · first | exact rfl | trivial | omega | (repeat' apply And.intro) <;> first | exact rfl | exact Nat.le_of_ble_eq_true rfl | omega | decide) | ((with_reducible apply Vl.mk (α := Int)); · (first | (with_reducible exact bits_keep _ _ _ _) | ((rewrite [tdiv_pos]); (focus (first | exact wi64 (by omega) (by omega) | exact wu32 (by omega) (by omega) | exact wi32 (by omega) (by omega))); omega) | exact tmod_pos (by omega) | exact wi64 (by omega) (by omega) | exact wu32 (by omega) (by omega) | exact wu32' _ | exact wu8 (by omega) (by omega) | exact wu64 (by omega) (by omega) | exact wi32 (by omega) (by omega) | rfl)) | ((with_reducible first | apply Vl.mk (α := Bool) | apply Vl.mk (α := Nat) | apply Vl.mk (α := ByteArray) | apply Ge.mk (α := Row) | apply Ge.mk (α := SV) | apply Ge.mk (α := AV)); · exact rfl) | (refine And.intro rfl ?_) | ((with_reducible first | apply Vl.mk (α := List SV) | apply Vl.mk (α := Ef) | apply Vl.mk (α := TV) | apply Ge.mk (α := List SV) | apply Sg.mk | apply Sk.mk); · (first | exact setAll_eq rfl | exact sg_all _ rfl | exact sk_all _ rfl rfl | ((first | apply sg_fc | apply sk_fc | (apply fc_eq; (conv => arg 1; whnf); apply fc_some) | apply fc_eq); (repeat' (first | exact fc_ren (wsv_scal _) | exact fc_ren (by assumption) | ((conv => arg 1; whnf); first | exact fc_nil | apply fc_cons | exact fc_int | exact fc_bool | exact fc_n | exact fc_ns | exact fc_ptr | exact fc_sl | exact fc_str | exact fc_unk | exact fc_fn | apply fc_s | apply fc_agg | apply fc_ta | apply fc_tup | exact fc_an | apply fc_ac | exact fc_tu | exact fc_nat | exact fc_bo | exact fc_none | apply fc_some | apply fc_pair | apply fc_row | apply fc_ef))); (all_goals exact rfl)) | ((dsimp only [Res.ef, renT, renA, renS, renN, nwN, upN, renRow, List.map_cons, List.map_nil, List.length_cons, List.length_nil]); first | done | exact rfl) | (dsimp only [setAll, List.set_cons_zero, List.set_cons_succ, List.cons_append, List.nil_append]; exact rfl) | exact rfl)) | ((first | apply Br.mk | apply Gd.mk) <;> (intro hb; first | (exact absurd hb (by decide)) | exact Bool.noConfusion (hb.symm.trans (by assumption) : true = false) | exact Bool.noConfusion (hb.symm.trans (by assumption) : false = true) | (simp only [decide_eq_true_eq, decide_eq_false_iff_not, beq_iff_eq, bne_iff_ne, beq_eq_false_iff_ne, bne_eq_false_iff_eq, Bool.not_eq_true', Bool.not_eq_false', Int.not_lt, Int.not_le, ge_iff_le, gt_iff_lt, ne_eq, Classical.not_not] at hb; first | (exfalso; omega) | skip) | skip)))); (all_goals (try (conv => whnf)))
  all_goals (apply Fin.mk (m := [(0, some 0), (1, some 1)]); (focus exact rfl); (all_goals ((try (show HlS _ _ [] _)); first | ((repeat' (first | exact SVsM.nil | exact avsm_nil | exact svm_same rfl | exact svm_ptr rfl | exact svm_sl rfl | exact svm_slnil rfl | exact svsm_scal rfl | exact svsm_scal (wsv_scal _) | exact svsm_scal (by assumption) | exact hls_nil | apply SVsM.cons | apply tvm_a | apply tvm_tup | apply avm_agg | apply avm_s | apply avsm_cons | exact trivial | (refine hls_skip rfl ?_) | apply hls_none | apply hls_row | (refine rowmt_mk rfl rfl rfl rfl ?_) | exact rowmt_nil rfl rfl)); done) | exact rfl)))
set_option maxHeartbeats 1000000 in
set_option maxRecDepth 100000 in
theorem runsB_fn (A : Nat) (hA : A < 4294967296) (L : Int) (l : List Mz) (N : Nat) (hN : l.length = N) (hk : ∀ m ∈ l, m.k < 4294967296) (ls : List Int) (n : Nat) (h : N ≤ 30 ∧ n ≤ 30) (kinds : Int) (x : List Nat) (hx : x.length = 16) (hxr : ∀ y ∈ x, y < 4294967296) :
    Fn Try.prog 4 [.agg [.int .u32 A, .int .i64 L, .sl 0 0 N], .s (.bool true), .s (.sl 1 0 n), .s (.int .i64 kinds), .agg (wsv x)] [⟨false, 6, mzs l⟩, ⟨false, 1, isv .i64 ls⟩] (· = ⟨.a (.s (.bool true)), [], []⟩) := by
  obtain ⟨R, hR, crb, crr⟩ := runAny A hA L l N hN (by omega) hk x hx hxr
  have hRs := wsv_scal R
  have hRe := eq16 _ hR
  have hsc := isv_scal .i64 ls
  have hsb := mzs_scal l
  have xk := wsv_known x
  have xsc := wsv_scal x
  have xl : (wsv x).length = 16 := by simp [hx]
  generalize wsv R = RR at *
  generalize mzs l = LB at *
  generalize isv .i64 ls = LL at *
  generalize wsv x = X at *
  refine fn_of_vc mixed tys_ok _ _ Try.func4 (by kernel_rfl) rfl Try.ntmps4 (by rw [Try.results4]) rfl ?_; dsimp only [argTm, argHl, Nat.zero_add, Nat.reduceAdd, List.length_nil, List.length_cons]
  (repeat' ((conv => whnf); first | (refine Eqs.mk true (eqt_ok _ ks16 rfl _ _ _ (by with_reducible exact hRe)) ?_)  |  ((first | apply Br.mk | apply Gd.mk) <;> (intro hb; first | (exact absurd hb (by decide)) | exact Bool.noConfusion (hb.symm.trans (by assumption) : true = false) | exact Bool.noConfusion (hb.symm.trans (by assumption) : false = true) | (exfalso; revert hb; simp only [beq_self_eq_true, Bool.and_true, Bool.and_self, reduceCtorEq, false_implies, bne_self_eq_false, imp_false, not_true_eq_false, not_false_eq_true, Bool.true_eq_false, Bool.false_eq_true]; done) | (simp only [decide_eq_true_eq, decide_eq_false_iff_not, beq_iff_eq, bne_iff_ne, beq_eq_false_iff_ne, bne_eq_false_iff_eq, Bool.not_eq_true', Bool.not_eq_false', Int.not_lt, Int.not_le, ge_iff_le, gt_iff_lt, ne_eq, Classical.not_not] at hb; first | (exfalso; omega) | skip) | skip))  |  (refine Eqs.mk _ (eqt_ok _ _ rfl _ _ _ rfl) ?_)  |  (apply Sd.mk; · first | exact xk)  |  (apply Sg.mk; · exact sg_all X xl)  |  (refine vcall_det (f := 18) crb [⟨_, 0⟩] [(_, ⟨false, 6, LB⟩)] (args2 rfl (congrArg AV.agg (ren_scal xsc).symm)) ⟨rfl, trivial⟩ ⟨rfl, rowM_ro hsb, trivial⟩ ⟨rfl, noUp⟩ ?_)  |  (refine vcall_det (f := 19) crr [⟨_, 0⟩] [(_, ⟨false, 6, LB⟩)] (args2 rfl (congrArg AV.agg (ren_scal xsc).symm)) ⟨rfl, trivial⟩ ⟨rfl, rowM_ro hsb, trivial⟩ ⟨rfl, noUp⟩ ?_)  |  (refine vcall_pure (f := 10) (awake16_fn) rfl ?_) | (with_reducible apply sd_draw; · kernel_rfl) | (apply Sd.mk; · first | exact rfl | trivial | omega | (repeat' apply And.intro) <;> first | exact rfl | exact Nat.le_of_ble_eq_true rfl | omega | decide) | ((with_reducible apply Vl.mk (α := Int)); · (first | (with_reducible exact bits_keep _ _ _ _) | ((rewrite [tdiv_pos]); (focus (first | exact wi64 (by omega) (by omega) | exact wu32 (by omega) (by omega) | exact wi32 (by omega) (by omega))); omega) | exact tmod_pos (by omega) | exact wi64 (by omega) (by omega) | exact wu32 (by omega) (by omega) | exact wu32' _ | exact wu8 (by omega) (by omega) | exact wu64 (by omega) (by omega) | exact wi32 (by omega) (by omega) | rfl)) | ((with_reducible first | apply Vl.mk (α := Bool) | apply Vl.mk (α := Nat) | apply Vl.mk (α := ByteArray) | apply Ge.mk (α := Row) | apply Ge.mk (α := SV) | apply Ge.mk (α := AV)); · exact rfl) | (refine And.intro rfl ?_) | ((with_reducible first | apply Vl.mk (α := List SV) | apply Vl.mk (α := Ef) | apply Vl.mk (α := TV) | apply Ge.mk (α := List SV) | apply Sg.mk | apply Sk.mk); · (first | exact setAll_eq rfl | exact sg_all _ rfl | exact sk_all _ rfl rfl | ((first | apply sg_fc | apply sk_fc | (apply fc_eq; (conv => arg 1; whnf); apply fc_some) | apply fc_eq); (repeat' (first | exact fc_ren (wsv_scal _) | exact fc_ren (by assumption) | ((conv => arg 1; whnf); first | exact fc_nil | apply fc_cons | exact fc_int | exact fc_bool | exact fc_n | exact fc_ns | exact fc_ptr | exact fc_sl | exact fc_str | exact fc_unk | exact fc_fn | apply fc_s | apply fc_agg | apply fc_ta | apply fc_tup | exact fc_an | apply fc_ac | exact fc_tu | exact fc_nat | exact fc_bo | exact fc_none | apply fc_some | apply fc_pair | apply fc_row | apply fc_ef))); (all_goals exact rfl)) | ((dsimp only [Res.ef, renT, renA, renS, renN, nwN, upN, renRow, List.map_cons, List.map_nil, List.length_cons, List.length_nil]); first | done | exact rfl) | (dsimp only [setAll, List.set_cons_zero, List.set_cons_succ, List.cons_append, List.nil_append]; exact rfl) | exact rfl)) | ((first | apply Br.mk | apply Gd.mk) <;> (intro hb; first | (exact absurd hb (by decide)) | exact Bool.noConfusion (hb.symm.trans (by assumption) : true = false) | exact Bool.noConfusion (hb.symm.trans (by assumption) : false = true) | (simp only [decide_eq_true_eq, decide_eq_false_iff_not, beq_iff_eq, bne_iff_ne, beq_eq_false_iff_ne, bne_eq_false_iff_eq, Bool.not_eq_true', Bool.not_eq_false', Int.not_lt, Int.not_le, ge_iff_le, gt_iff_lt, ne_eq, Classical.not_not] at hb; first | (exfalso; omega) | skip) | skip)))); (all_goals (try (conv => whnf)))
  all_goals first | (apply Fin.mk (m := [(0, some 0), (1, some 1)]); (focus exact rfl); (all_goals ((try (show HlS _ _ [] _)); first | ((repeat' (first | exact SVsM.nil | exact avsm_nil | exact svm_same rfl | exact svm_ptr rfl | exact svm_sl rfl | exact svm_slnil rfl | exact svsm_scal rfl | exact svsm_scal (wsv_scal _) | exact svsm_scal (by assumption) | exact hls_nil | apply SVsM.cons | apply tvm_a | apply tvm_tup | apply avm_agg | apply avm_s | apply avsm_cons | exact trivial | (refine hls_skip rfl ?_) | apply hls_none | apply hls_row | (refine rowmt_mk rfl rfl rfl rfl ?_) | exact rowmt_nil rfl rfl)); done) | exact rfl))) | trace_state
set_option maxHeartbeats 1000000 in
set_option maxRecDepth 100000 in
theorem runsC_fn (A : Nat) (hA : A < 4294967296) (L : Int) (l : List Mz) (N : Nat) (ls : List Int) (n : Nat) (hn : ls.length = n) (h : N ≤ 30 ∧ n ≤ 30) (kinds : Int) (x : List Nat) (hx : x.length = 16) (hxr : ∀ y ∈ x, y < 4294967296) :
    Fn Try.prog 4 [.agg [.int .u32 A, .int .i64 L, .sl 0 0 N], .s (.bool false), .s (.sl 1 0 n), .s (.int .i64 kinds), .agg (wsv x)] [⟨false, 6, mzs l⟩, ⟨false, 1, isv .i64 ls⟩] (· = ⟨.a (.s (.bool true)), [], []⟩) := by
  have hmade := made_fn ls n hn (by omega) kinds
  have hmok := fun m hm => (madeL_ok (kinds % 3) 16 ls m hm).1
  have hlen := (madeL_len (kinds % 3) 16 ls).1
  generalize madeL (kinds % 3) 16 ls = l2 at *
  obtain ⟨NB, hNB⟩ : ∃ N, l2.length = N := ⟨_, rfl⟩
  rw [hNB] at hmade hlen
  obtain ⟨R, hR, crb, crr⟩ := runAny 0 (by omega) NB (l2.map Mi.z) NB (by rw [List.length_map]; exact hNB) (by omega) (fun m hm => by
    obtain ⟨q, hq, rfl⟩ := List.mem_map.1 hm
    exact (hmok q hq).2.2.2) x hx hxr
  rw [mzs_mcs] at crb crr
  have hRs := wsv_scal R
  have hRe := eq16 _ hR
  have hsc := isv_scal .i64 ls
  have hsb := mzs_scal l
  have hs2 := mcs_scal l2
  have xk := wsv_known x
  have xsc := wsv_scal x
  have xl : (wsv x).length = 16 := by simp [hx]
  generalize wsv R = RR at *
  generalize mzs l = LB at *
  generalize mcs l2 = L2 at *
  generalize isv .i64 ls = LL at *
  generalize wsv x = X at *
  refine fn_of_vc mixed tys_ok _ _ Try.func4 (by kernel_rfl) rfl Try.ntmps4 (by rw [Try.results4]) rfl ?_; dsimp only [argTm, argHl, Nat.zero_add, Nat.reduceAdd, List.length_nil, List.length_cons]
  (repeat' ((conv => whnf); first | (refine Eqs.mk true (eqt_ok _ ks16 rfl _ _ _ (by with_reducible exact hRe)) ?_)  |  ((first | apply Br.mk | apply Gd.mk) <;> (intro hb; first | (exact absurd hb (by decide)) | exact Bool.noConfusion (hb.symm.trans (by assumption) : true = false) | exact Bool.noConfusion (hb.symm.trans (by assumption) : false = true) | (exfalso; revert hb; simp only [beq_self_eq_true, Bool.and_true, Bool.and_self, reduceCtorEq, false_implies, bne_self_eq_false, imp_false, not_true_eq_false, not_false_eq_true, Bool.true_eq_false, Bool.false_eq_true]; done) | (simp only [decide_eq_true_eq, decide_eq_false_iff_not, beq_iff_eq, bne_iff_ne, beq_eq_false_iff_ne, bne_eq_false_iff_eq, Bool.not_eq_true', Bool.not_eq_false', Int.not_lt, Int.not_le, ge_iff_le, gt_iff_lt, ne_eq, Classical.not_not] at hb; first | (exfalso; omega) | skip) | skip))  |  (refine Eqs.mk _ (eqt_ok _ _ rfl _ _ _ rfl) ?_)  |  (apply Sd.mk; · first | exact xk)  |  (apply Sg.mk; · exact sg_all X xl)  |  (refine vcall_det (f := 11) hmade [⟨1, 0⟩] [(1, ⟨false, 1, LL⟩)] rfl ⟨rfl, trivial⟩ ⟨rfl, rowM_ro hsc, trivial⟩ ⟨rfl, noUp⟩ ?_)  |  (refine vcall_det (f := 18) crb [⟨_, 0⟩] [(_, ⟨true, 6, L2⟩)] (args2 rfl (congrArg AV.agg (ren_scal xsc).symm)) ⟨rfl, trivial⟩ ⟨rfl, rowM_ro hs2, trivial⟩ ⟨rfl, noUp⟩ ?_)  |  (refine vcall_det (f := 19) crr [⟨_, 0⟩] [(_, ⟨true, 6, L2⟩)] (args2 rfl (congrArg AV.agg (ren_scal xsc).symm)) ⟨rfl, trivial⟩ ⟨rfl, rowM_ro hs2, trivial⟩ ⟨rfl, noUp⟩ ?_)  |  (refine vcall_pure (f := 10) (awake16_fn) rfl ?_) | (with_reducible apply sd_draw; · kernel_rfl) | (apply Sd.mk; · first | exact rfl | trivial | omega | (repeat' apply And.intro) <;> first | exact rfl | exact Nat.le_of_ble_eq_true rfl | omega | decide) | ((with_reducible apply Vl.mk (α := Int)); · (first | (with_reducible exact bits_keep _ _ _ _) | ((rewrite [tdiv_pos]); (focus (first | exact wi64 (by omega) (by omega) | exact wu32 (by omega) (by omega) | exact wi32 (by omega) (by omega))); omega) | exact tmod_pos (by omega) | exact wi64 (by omega) (by omega) | exact wu32 (by omega) (by omega) | exact wu32' _ | exact wu8 (by omega) (by omega) | exact wu64 (by omega) (by omega) | exact wi32 (by omega) (by omega) | rfl)) | ((with_reducible first | apply Vl.mk (α := Bool) | apply Vl.mk (α := Nat) | apply Vl.mk (α := ByteArray) | apply Ge.mk (α := Row) | apply Ge.mk (α := SV) | apply Ge.mk (α := AV)); · exact rfl) | (refine And.intro rfl ?_) | ((with_reducible first | apply Vl.mk (α := List SV) | apply Vl.mk (α := Ef) | apply Vl.mk (α := TV) | apply Ge.mk (α := List SV) | apply Sg.mk | apply Sk.mk); · (first | exact setAll_eq rfl | exact sg_all _ rfl | exact sk_all _ rfl rfl | ((first | apply sg_fc | apply sk_fc | (apply fc_eq; (conv => arg 1; whnf); apply fc_some) | apply fc_eq); (repeat' (first | exact fc_ren (wsv_scal _) | exact fc_ren (by assumption) | ((conv => arg 1; whnf); first | exact fc_nil | apply fc_cons | exact fc_int | exact fc_bool | exact fc_n | exact fc_ns | exact fc_ptr | exact fc_sl | exact fc_str | exact fc_unk | exact fc_fn | apply fc_s | apply fc_agg | apply fc_ta | apply fc_tup | exact fc_an | apply fc_ac | exact fc_tu | exact fc_nat | exact fc_bo | exact fc_none | apply fc_some | apply fc_pair | apply fc_row | apply fc_ef))); (all_goals exact rfl)) | ((dsimp only [Res.ef, renT, renA, renS, renN, nwN, upN, renRow, List.map_cons, List.map_nil, List.length_cons, List.length_nil]); first | done | exact rfl) | (dsimp only [setAll, List.set_cons_zero, List.set_cons_succ, List.cons_append, List.nil_append]; exact rfl) | exact rfl)) | ((first | apply Br.mk | apply Gd.mk) <;> (intro hb; first | (exact absurd hb (by decide)) | exact Bool.noConfusion (hb.symm.trans (by assumption) : true = false) | exact Bool.noConfusion (hb.symm.trans (by assumption) : false = true) | (simp only [decide_eq_true_eq, decide_eq_false_iff_not, beq_iff_eq, bne_iff_ne, beq_eq_false_iff_ne, bne_eq_false_iff_eq, Bool.not_eq_true', Bool.not_eq_false', Int.not_lt, Int.not_le, ge_iff_le, gt_iff_lt, ne_eq, Classical.not_not] at hb; first | (exfalso; omega) | skip) | skip)))); (all_goals (try (conv => whnf)))
  all_goals first | (apply Fin.mk (m := [(0, some 0), (1, some 1)]); (focus exact rfl); (all_goals ((try (show HlS _ _ [] _)); first | ((repeat' (first | exact SVsM.nil | exact avsm_nil | exact svm_same rfl | exact svm_ptr rfl | exact svm_sl rfl | exact svm_slnil rfl | exact svsm_scal rfl | exact svsm_scal (wsv_scal _) | exact svsm_scal (by assumption) | exact hls_nil | apply SVsM.cons | apply tvm_a | apply tvm_tup | apply avm_agg | apply avm_s | apply avsm_cons | exact trivial | (refine hls_skip rfl ?_) | apply hls_none | apply hls_row | (refine rowmt_mk rfl rfl rfl rfl ?_) | exact rowmt_nil rfl rfl)); done) | exact rfl))) | trace_state
theorem runs16_fn (A : Nat) (hA : A < 4294967296) (L : Int) (l : List Mz) (N : Nat) (hN : l.length = N) (hN2 : N ≤ 9223372036854775807) (hk : ∀ m ∈ l, m.k < 4294967296) (raw : Bool) (ls : List Int) (n : Nat) (hn : ls.length = n) (hn2 : n ≤ 9223372036854775807) (kinds : Int) (x : List Nat) (hx : x.length = 16) (hxr : ∀ y ∈ x, y < 4294967296) :
    Fn Try.prog 4 [.agg [.int .u32 A, .int .i64 L, .sl 0 0 N], .s (.bool raw), .s (.sl 1 0 n), .s (.int .i64 kinds), .agg (wsv x)] [⟨false, 6, mzs l⟩, ⟨false, 1, isv .i64 ls⟩] (· = ⟨.a (.s (.bool true)), [], []⟩) := by
  by_cases h : N > 30 ∨ n > 30
  · exact runsA_fn A L l N raw ls n hn2 hN2 h kinds x hx
  · cases raw with
    | true => exact runsB_fn A hA L l N hN hk ls n (by omega) kinds x hx hxr
    | false => exact runsC_fn A hA L l N ls n hn (by omega) kinds x hx hxr
end Go.Proofs.Ytpkbfpjkpiimiaa
