/- OptimizeAgain. Printed by mkag.py. -/
import Derived.Test.YtpkbfpjkpiimiaaAgA
namespace Go.Proofs.Ytpkbfpjkpiimiaa
open Go Go.RowKit
set_option linter.unusedSimpArgs false
set_option linter.unusedVariables false

def ag0 (NB : Nat) (LL X LB : List SV) : St :=
  ⟨[(3, .a (.s (.ptr 1 0))), (5, .a (.s (.ptr 2 0))), (6, .a (.s (.ptr 3 0))), (7, .a (.s (.int .i64 ((0 : Nat) : Int))))],
   [(0, some ⟨false, 1, LL⟩), (1, some ⟨true, 1, X⟩), (2, some ⟨true, 1, [.int .u32 0, .int .i64 NB, .sl 4 0 NB]⟩), (3, some ⟨true, 1, [.int .u32 0, .int .i64 NB, .sl 4 0 NB]⟩), (4, some ⟨true, 6, LB⟩)], [0]⟩
def ag1 (NB : Nat) (LL X LB : List SV) (i NC : Nat) (LC : List SV) : St :=
  ⟨[(3, .a (.s (.ptr 1 0))), (5, .a (.s (.ptr 2 0))), (6, .a (.s (.ptr 3 0))), (7, .a (.s (.int .i64 i)))],
   [(0, some ⟨false, 1, LL⟩), (1, some ⟨true, 1, X⟩), (2, some ⟨true, 1, [.int .u32 0, .int .i64 NB, .sl 4 0 NB]⟩), (3, some ⟨true, 1, [.int .u32 0, .int .i64 NB, .sl 5 0 NC]⟩), (4, some ⟨true, 6, LB⟩), (5, some ⟨true, 6, LC⟩)], [0]⟩
set_option maxHeartbeats 1000000 in
set_option maxRecDepth 100000 in
theorem againA_fn (ls : List Int) (n : Nat) (hn : ls.length = n) (hn2 : n ≤ 9223372036854775807) (h : n > 30 ∨ n = 0) (x : List Nat) (hx : x.length = 16) :
    Fn Try.prog 9 [.s (.sl 0 0 n), .agg (wsv x)] [⟨false, 1, isv .i64 ls⟩] (· = ⟨.a (.s (.bool true)), [], []⟩) := by
  have hsc := isv_scal .i64 ls
  have xk := wsv_known x
  generalize isv .i64 ls = LL at *
  generalize wsv x = X at *
  refine fn_of_vc mixed tys_ok _ _ Try.func9 (by kernel_rfl) rfl Try.ntmps9 (by rw [Try.results9]) rfl ?_; dsimp only [argTm, argHl, Nat.zero_add, Nat.reduceAdd, List.length_nil, List.length_cons]
  (repeat' ((conv => whnf); first | ((first | apply Br.mk | apply Gd.mk) <;> (intro hb; first | (exact absurd hb (by decide)) | exact Bool.noConfusion (hb.symm.trans (by assumption) : true = false) | exact Bool.noConfusion (hb.symm.trans (by assumption) : false = true) | (exfalso; revert hb; simp only [beq_self_eq_true, Bool.and_true, Bool.and_self, reduceCtorEq, false_implies, bne_self_eq_false, imp_false, not_true_eq_false, not_false_eq_true, Bool.true_eq_false, Bool.false_eq_true]; done) | (simp only [decide_eq_true_eq, decide_eq_false_iff_not, beq_iff_eq, bne_iff_ne, beq_eq_false_iff_ne, bne_eq_false_iff_eq, Bool.not_eq_true', Bool.not_eq_false', Int.not_lt, Int.not_le, ge_iff_le, gt_iff_lt, ne_eq, Classical.not_not] at hb; first | (exfalso; omega) | skip) | skip))  |  (refine Eqs.mk _ (eqt_ok _ _ rfl _ _ _ rfl) ?_)  |  (apply Sd.mk; · exact xk)  |  (refine vcall_pure (f := 10) (awake16_fn) rfl ?_) | (with_reducible apply sd_draw; · kernel_rfl) | (apply Sd.mk; · first | exact rfl | trivial | omega | (repeat' apply And.intro) <;> first | exact rfl | exact Nat.le_of_ble_eq_true rfl | omega | decide) | ((with_reducible apply Vl.mk (α := Int)); · (first | (with_reducible exact bits_keep _ _ _ _) | ((rewrite [tdiv_pos]); (focus (first | exact wi64 (by omega) (by omega) | exact wu32 (by omega) (by omega) | exact wi32 (by omega) (by omega))); omega) | exact tmod_pos (by omega) | exact wi64 (by omega) (by omega) | exact wu32 (by omega) (by omega) | exact wu32' _ | exact wu8 (by omega) (by omega) | exact wu64 (by omega) (by omega) | exact wi32 (by omega) (by omega) | rfl)) | ((with_reducible first | apply Vl.mk (α := Bool) | apply Vl.mk (α := Nat) | apply Vl.mk (α := ByteArray) | apply Ge.mk (α := Row) | apply Ge.mk (α := SV) | apply Ge.mk (α := AV)); · exact rfl) | (refine And.intro rfl ?_) | ((with_reducible first | apply Vl.mk (α := List SV) | apply Vl.mk (α := Ef) | apply Vl.mk (α := TV) | apply Ge.mk (α := List SV) | apply Sg.mk | apply Sk.mk); · (first | exact setAll_eq rfl | exact sg_all _ rfl | exact sk_all _ rfl rfl | ((first | apply sg_fc | apply sk_fc | (apply fc_eq; (conv => arg 1; whnf); apply fc_some) | apply fc_eq); (repeat' (first | exact fc_ren (wsv_scal _) | exact fc_ren (by assumption) | ((conv => arg 1; whnf); first | exact fc_nil | apply fc_cons | exact fc_int | exact fc_bool | exact fc_n | exact fc_ns | exact fc_ptr | exact fc_sl | exact fc_str | exact fc_unk | exact fc_fn | apply fc_s | apply fc_agg | apply fc_ta | apply fc_tup | exact fc_an | apply fc_ac | exact fc_tu | exact fc_nat | exact fc_bo | exact fc_none | apply fc_some | apply fc_pair | apply fc_row | apply fc_ef))); (all_goals exact rfl)) | ((dsimp only [Res.ef, renT, renA, renS, renN, nwN, upN, renRow, List.map_cons, List.map_nil, List.length_cons, List.length_nil]); first | done | exact rfl) | (dsimp only [setAll, List.set_cons_zero, List.set_cons_succ, List.cons_append, List.nil_append]; exact rfl) | exact rfl)) | ((first | apply Br.mk | apply Gd.mk) <;> (intro hb; first | (exact absurd hb (by decide)) | exact Bool.noConfusion (hb.symm.trans (by assumption) : true = false) | exact Bool.noConfusion (hb.symm.trans (by assumption) : false = true) | (simp only [decide_eq_true_eq, decide_eq_false_iff_not, beq_iff_eq, bne_iff_ne, beq_eq_false_iff_ne, bne_eq_false_iff_eq, Bool.not_eq_true', Bool.not_eq_false', Int.not_lt, Int.not_le, ge_iff_le, gt_iff_lt, ne_eq, Classical.not_not] at hb; first | (exfalso; omega) | skip) | skip)))); (all_goals (try (conv => whnf)))
  all_goals (apply Fin.mk (m := [(0, some 0)]); (focus exact rfl); (all_goals ((try (show HlS _ _ [] _)); first | ((repeat' (first | exact SVsM.nil | exact avsm_nil | exact svm_same rfl | exact svm_ptr rfl | exact svm_sl rfl | exact svm_slnil rfl | exact svsm_scal rfl | exact svsm_scal (wsv_scal _) | exact svsm_scal (by assumption) | exact hls_nil | apply SVsM.cons | apply tvm_a | apply tvm_tup | apply avm_agg | apply avm_s | apply avsm_cons | exact trivial | (refine hls_skip rfl ?_) | apply hls_none | apply hls_row | (refine rowmt_mk rfl rfl rfl rfl ?_) | exact rowmt_nil rfl rfl)); done) | exact rfl)))
set_option maxHeartbeats 1000000 in
set_option maxRecDepth 100000 in
theorem againB_fn (ls : List Int) (n : Nat) (hn : ls.length = n) (h30 : n ≤ 30) (h0 : 0 < n) (x : List Nat) (hx : x.length = 16) (hxr : ∀ y ∈ x, y < 4294967296) :
    Fn Try.prog 9 [.s (.sl 0 0 n), .agg (wsv x)] [⟨false, 1, isv .i64 ls⟩] (· = ⟨.a (.s (.bool true)), [], []⟩) := by
  have hmade := made_fn ls n hn (by omega) 0
  have hpur := madeL_pur ls
  have e0 : (0 : Int) % 3 = 0 := by decide
  rw [e0] at hmade
  have hlen := madeL_len 0 16 ls
  have hpos := hlen.2 (by omega) (by omega)
  have hmok := fun m hm => (madeL_ok 0 16 ls m hm).1
  have hmay := made_may 0 ls (by omega)
  generalize madeL 0 16 ls = l at *
  obtain ⟨NB, hNB⟩ : ∃ N, l.length = N := ⟨_, rfl⟩
  have hxl0 : (x.set 0 0).length = 16 := by simp [hx]
  obtain ⟨C, hC0, hCs, hip, hend, hall⟩ := it_facts NB l (x.set 0 0) hpos hlen.1 hpur hmok (set_rng hxr (by omega)) hxl0 (by rw [getD_set _ _ _ _ _ (by omega), if_pos rfl]) (by rw [← hNB]; exact hmay)
  rw [hNB] at hmade hmay hlen hpos
  have crr := rrun_fn 0 (by omega) NB l NB hNB (by omega) x hx hxr (pureV_of 0 NB l hmay hpur) hmok
  have hRl : (runL l (x.set 0 0)).length = 16 := by rw [runL_len, hxl0]
  -- one fold of the i-th
  have hstep : ∀ (i NC : Nat), (C i).length = NC → NC ≤ NB → Fn Try.prog 12 [.agg [.int .u32 0, .int .i64 NB, .sl 0 0 NC]] [⟨false, 6, mcs (C i)⟩] (· = ⟨.a (.agg [.int .u32 0, .int .i64 NB, .sl 1 0 (C (i + 1)).length]), [], [⟨true, 6, mcs (C (i + 1))⟩]⟩) := fun i NC hNC hle =>
    by rw [hCs i]; exact foldI_fn 0 (by omega) NB (C i) NC _ hNC (by omega) (by have := hip i; omega) (hall i).2.1 (hall i).2.2.1 rfl
  have hrun : ∀ (i NC : Nat), (C i).length = NC → NC ≤ NB → Fn Try.prog 18 [.agg [.int .u32 0, .int .i64 NB, .sl 0 0 NC], .agg (wsv x)] [⟨false, 6, mcs (C i)⟩] (· = ⟨.a (.agg (wsv (runL l (x.set 0 0)))), [], []⟩) := fun i NC hNC hle => by
    have := orun_fn 0 (by omega) NB (C i) NC hNC (by omega) x hx hxr (pureV_of 0 NB _ (hall i).2.2.1 (hall i).1) (hall i).2.1
    rw [(hall i).2.2.2] at this
    exact this
  have hle : ∀ i, (C (i + 1)).length ≤ (C i).length := fun i => by rw [hCs i]; exact fldL_le _
  have hsb : mcs (C 0) = mcs l := by rw [hC0]
  have hsl := fun i => mcs_scal (C i)
  have hsc := isv_scal .i64 ls
  have hscb := mcs_scal l
  have hRs := wsv_scal (runL l (x.set 0 0))
  have hRe := eq16 _ hRl
  have xk := wsv_known x
  have xsc := wsv_scal x
  have xl : (wsv x).length = 16 := by simp [hx]
  have hleB : (C 0).length ≤ NB := by rw [hC0]; omega
  clear hall hpur hmok hmay
  generalize wsv (runL l (x.set 0 0)) = RR at *
  generalize hLB : mcs l = LB at *
  generalize isv .i64 ls = LL at *
  generalize wsv x = X at *
  refine fn_of_vc mixed tys_ok _ _ Try.func9 (by kernel_rfl) rfl Try.ntmps9 (by rw [Try.results9]) rfl ?_; dsimp only [argTm, argHl, Nat.zero_add, Nat.reduceAdd, List.length_nil, List.length_cons]
  (repeat' ((conv => whnf); first | ((first | apply Br.mk | apply Gd.mk) <;> (intro hb; first | (exact absurd hb (by decide)) | exact Bool.noConfusion (hb.symm.trans (by assumption) : true = false) | exact Bool.noConfusion (hb.symm.trans (by assumption) : false = true) | (exfalso; revert hb; simp only [beq_self_eq_true, Bool.and_true, Bool.and_self, reduceCtorEq, false_implies, bne_self_eq_false, imp_false, not_true_eq_false, not_false_eq_true, Bool.true_eq_false, Bool.false_eq_true]; done) | (simp only [decide_eq_true_eq, decide_eq_false_iff_not, beq_iff_eq, bne_iff_ne, beq_eq_false_iff_ne, bne_eq_false_iff_eq, Bool.not_eq_true', Bool.not_eq_false', Int.not_lt, Int.not_le, ge_iff_le, gt_iff_lt, ne_eq, Classical.not_not] at hb; first | (exfalso; omega) | skip) | skip))  |  (refine Eqs.mk _ (eqt_ok _ _ rfl _ _ _ rfl) ?_)  |  (apply Sd.mk; · first | exact xk)  |  (refine vcall_det (f := 11) hmade [⟨0, 0⟩] [(0, ⟨false, 1, LL⟩)] rfl ⟨rfl, trivial⟩ ⟨rfl, rowM_ro hsc, trivial⟩ ⟨rfl, noUp⟩ ?_) | (with_reducible apply sd_draw; · kernel_rfl) | (apply Sd.mk; · first | exact rfl | trivial | omega | (repeat' apply And.intro) <;> first | exact rfl | exact Nat.le_of_ble_eq_true rfl | omega | decide) | ((with_reducible apply Vl.mk (α := Int)); · (first | (with_reducible exact bits_keep _ _ _ _) | ((rewrite [tdiv_pos]); (focus (first | exact wi64 (by omega) (by omega) | exact wu32 (by omega) (by omega) | exact wi32 (by omega) (by omega))); omega) | exact tmod_pos (by omega) | exact wi64 (by omega) (by omega) | exact wu32 (by omega) (by omega) | exact wu32' _ | exact wu8 (by omega) (by omega) | exact wu64 (by omega) (by omega) | exact wi32 (by omega) (by omega) | rfl)) | ((with_reducible first | apply Vl.mk (α := Bool) | apply Vl.mk (α := Nat) | apply Vl.mk (α := ByteArray) | apply Ge.mk (α := Row) | apply Ge.mk (α := SV) | apply Ge.mk (α := AV)); · exact rfl) | (refine And.intro rfl ?_) | ((with_reducible first | apply Vl.mk (α := List SV) | apply Vl.mk (α := Ef) | apply Vl.mk (α := TV) | apply Ge.mk (α := List SV) | apply Sg.mk | apply Sk.mk); · (first | exact setAll_eq rfl | exact sg_all _ rfl | exact sk_all _ rfl rfl | ((first | apply sg_fc | apply sk_fc | (apply fc_eq; (conv => arg 1; whnf); apply fc_some) | apply fc_eq); (repeat' (first | exact fc_ren (wsv_scal _) | exact fc_ren (by assumption) | ((conv => arg 1; whnf); first | exact fc_nil | apply fc_cons | exact fc_int | exact fc_bool | exact fc_n | exact fc_ns | exact fc_ptr | exact fc_sl | exact fc_str | exact fc_unk | exact fc_fn | apply fc_s | apply fc_agg | apply fc_ta | apply fc_tup | exact fc_an | apply fc_ac | exact fc_tu | exact fc_nat | exact fc_bo | exact fc_none | apply fc_some | apply fc_pair | apply fc_row | apply fc_ef))); (all_goals exact rfl)) | ((dsimp only [Res.ef, renT, renA, renS, renN, nwN, upN, renRow, List.map_cons, List.map_nil, List.length_cons, List.length_nil]); first | done | exact rfl) | (dsimp only [setAll, List.set_cons_zero, List.set_cons_succ, List.cons_append, List.nil_append]; exact rfl) | exact rfl)) | ((first | apply Br.mk | apply Gd.mk) <;> (intro hb; first | (exact absurd hb (by decide)) | exact Bool.noConfusion (hb.symm.trans (by assumption) : true = false) | exact Bool.noConfusion (hb.symm.trans (by assumption) : false = true) | (simp only [decide_eq_true_eq, decide_eq_false_iff_not, beq_iff_eq, bne_iff_ne, beq_eq_false_iff_ne, bne_eq_false_iff_eq, Bool.not_eq_true', Bool.not_eq_false', Int.not_lt, Int.not_le, ge_iff_le, gt_iff_lt, ne_eq, Classical.not_not] at hb; first | (exfalso; omega) | skip) | skip)))); (all_goals (try (conv => whnf)))
  refine Lp.inv (fun mm σ => (mm = 17 ∧ σ = ag0 NB LL X LB) ∨ (∃ (i NC : Nat), mm + (i + 1) = 17 ∧ (C (i + 1)).length = NC ∧ NC ≤ NB ∧ σ = ag1 NB LL X LB (i + 1) NC (mcs (C (i + 1))))) ?_ ?_
  · refine ⟨17, ag0 NB LL X LB, ?_, .inl ⟨rfl, rfl⟩⟩
    apply wk_of (m := [(0, some 0), (1, some 65536), (2, some 196736), (3, some 262208), (4, some 196672)])
    · repeat' (first | exact tml_nil | apply tml_cons)
      all_goals first | exact tvm_a (avm_s (svm_same rfl)) | exact tvm_a (avm_s (svm_ptr rfl)) | exact tvm_a (avm_s (svm_sl rfl)) | exact tvm_a (avm_s (svm_slnil rfl))
    · show HlS _ _ [] _
      refine hls_row (rowmt_mk rfl rfl rfl rfl (svsm_scal hsc)) ?_
      refine hls_row (rowmt_mk rfl rfl rfl rfl (svsm_scal xsc)) ?_
      refine hls_row (rowmt_mk rfl rfl rfl rfl (.cons (svm_same rfl) (.cons (svm_same rfl) (.cons (svm_sl rfl) .nil)))) ?_
      refine hls_row (rowmt_mk rfl rfl rfl rfl (.cons (svm_same rfl) (.cons (svm_same rfl) (.cons (svm_sl rfl) .nil)))) ?_
      refine hls_row (rowmt_mk rfl rfl rfl rfl (svsm_scal hscb)) ?_
      exact hls_nil
    · rfl
  · rintro mm σ (⟨hmm, rfl⟩ | ⟨i, NC, hmi, hNC, hNle, rfl⟩)
    · unfold ag0
      have cfold := hstep 0 NB (by rw [hC0]; exact hNB) (by omega)
      rw [hsb] at cfold
      obtain ⟨K, hK⟩ : ∃ K, (C (0 + 1)).length = K := ⟨_, rfl⟩
      have crun := hrun (0 + 1) K hK (by have := hle 0; omega)
      have hle0 := hle 0
      have hs2 := hsl (0 + 1)
      have hKB : K ≤ NB := by omega
      rw [hK] at cfold
      have q2 : IntKind.i64.wrap (((0 : Nat) : Int) + 1) = ((0 + 1 : Nat) : Int) := by decide
      clear hstep hrun hmade hend hip
      generalize hLD : mcs (C (0 + 1)) = LD at *
      (repeat' ((conv => whnf); first | (refine Eqs.mk true (eqt_ok _ ks16 rfl _ _ _ (by with_reducible exact hRe)) ?_)  |  ((first | apply Br.mk | apply Gd.mk) <;> (intro hb; first | (exact absurd hb (by decide)) | exact Bool.noConfusion (hb.symm.trans (by assumption) : true = false) | exact Bool.noConfusion (hb.symm.trans (by assumption) : false = true) | (exfalso; revert hb; simp only [beq_self_eq_true, Bool.and_true, Bool.and_self, reduceCtorEq, false_implies, bne_self_eq_false, imp_false, not_true_eq_false, not_false_eq_true, Bool.true_eq_false, Bool.false_eq_true]; done) | (simp only [decide_eq_true_eq, decide_eq_false_iff_not, beq_iff_eq, bne_iff_ne, beq_eq_false_iff_ne, bne_eq_false_iff_eq, Bool.not_eq_true', Bool.not_eq_false', Int.not_lt, Int.not_le, ge_iff_le, gt_iff_lt, ne_eq, Classical.not_not] at hb; first | (exfalso; omega) | skip) | skip))  |  (refine Eqs.mk _ (eqt_ok _ _ rfl _ _ _ rfl) ?_)  |  ((with_reducible apply Vl.mk (α := Int)); · with_reducible exact q2)  |  (apply Sd.mk; · first | exact xk)  |  (apply Sg.mk; · exact sg_all X xl)  |  (refine vcall_det (f := 12) cfold [⟨_, 0⟩] [(_, ⟨true, 6, LB⟩)] rfl ⟨rfl, trivial⟩ ⟨rfl, rowM_ro hscb, trivial⟩ ⟨rfl, noUp⟩ ?_)  |  (refine vcall_det (f := 18) crun [⟨_, 0⟩] [(_, ⟨true, 6, LD⟩)] (args2 rfl (congrArg AV.agg (ren_scal xsc).symm)) ⟨rfl, trivial⟩ ⟨rfl, rowM_ro hs2, trivial⟩ ⟨rfl, noUp⟩ ?_)  |  (refine vcall_det (f := 19) crr [⟨_, 0⟩] [(_, ⟨true, 6, LB⟩)] (args2 rfl (congrArg AV.agg (ren_scal xsc).symm)) ⟨rfl, trivial⟩ ⟨rfl, rowM_ro hscb, trivial⟩ ⟨rfl, noUp⟩ ?_) | (with_reducible apply sd_draw; · kernel_rfl) | (apply Sd.mk; · first | exact rfl | trivial | omega | (repeat' apply And.intro) <;> first | exact rfl | exact Nat.le_of_ble_eq_true rfl | omega | decide) | ((with_reducible apply Vl.mk (α := Int)); · (first | (with_reducible exact bits_keep _ _ _ _) | ((rewrite [tdiv_pos]); (focus (first | exact wi64 (by omega) (by omega) | exact wu32 (by omega) (by omega) | exact wi32 (by omega) (by omega))); omega) | exact tmod_pos (by omega) | exact wi64 (by omega) (by omega) | exact wu32 (by omega) (by omega) | exact wu32' _ | exact wu8 (by omega) (by omega) | exact wu64 (by omega) (by omega) | exact wi32 (by omega) (by omega) | rfl)) | ((with_reducible first | apply Vl.mk (α := Bool) | apply Vl.mk (α := Nat) | apply Vl.mk (α := ByteArray) | apply Ge.mk (α := Row) | apply Ge.mk (α := SV) | apply Ge.mk (α := AV)); · exact rfl) | (refine And.intro rfl ?_) | ((with_reducible first | apply Vl.mk (α := List SV) | apply Vl.mk (α := Ef) | apply Vl.mk (α := TV) | apply Ge.mk (α := List SV) | apply Sg.mk | apply Sk.mk); · (first | exact setAll_eq rfl | exact sg_all _ rfl | exact sk_all _ rfl rfl | ((first | apply sg_fc | apply sk_fc | (apply fc_eq; (conv => arg 1; whnf); apply fc_some) | apply fc_eq); (repeat' (first | exact fc_ren (wsv_scal _) | exact fc_ren (by assumption) | ((conv => arg 1; whnf); first | exact fc_nil | apply fc_cons | exact fc_int | exact fc_bool | exact fc_n | exact fc_ns | exact fc_ptr | exact fc_sl | exact fc_str | exact fc_unk | exact fc_fn | apply fc_s | apply fc_agg | apply fc_ta | apply fc_tup | exact fc_an | apply fc_ac | exact fc_tu | exact fc_nat | exact fc_bo | exact fc_none | apply fc_some | apply fc_pair | apply fc_row | apply fc_ef))); (all_goals exact rfl)) | ((dsimp only [Res.ef, renT, renA, renS, renN, nwN, upN, renRow, List.map_cons, List.map_nil, List.length_cons, List.length_nil]); first | done | exact rfl) | (dsimp only [setAll, List.set_cons_zero, List.set_cons_succ, List.cons_append, List.nil_append]; exact rfl) | exact rfl)) | ((first | apply Br.mk | apply Gd.mk) <;> (intro hb; first | (exact absurd hb (by decide)) | exact Bool.noConfusion (hb.symm.trans (by assumption) : true = false) | exact Bool.noConfusion (hb.symm.trans (by assumption) : false = true) | (simp only [decide_eq_true_eq, decide_eq_false_iff_not, beq_iff_eq, bne_iff_ne, beq_eq_false_iff_ne, bne_eq_false_iff_eq, Bool.not_eq_true', Bool.not_eq_false', Int.not_lt, Int.not_le, ge_iff_le, gt_iff_lt, ne_eq, Classical.not_not] at hb; first | (exfalso; omega) | skip) | skip)))); (all_goals (try (conv => whnf)))
      all_goals first
        | (refine ⟨mm - 1, ag1 NB LL X LB (0 + 1) K LD, by omega, ?_, .inr ⟨0, K, by omega, hK, hKB, by rw [hLD]⟩⟩
           apply wk_of (m := [(0, some 0), (1, some 1), (2, some 2), (3, some 3), (4, some 4), (5, some 131136)])
           · repeat' (first | exact tml_nil | apply tml_cons)
             all_goals first | exact tvm_a (avm_s (svm_same rfl)) | exact tvm_a (avm_s (svm_ptr rfl)) | exact tvm_a (avm_s (svm_sl rfl)) | exact tvm_a (avm_s (svm_slnil rfl))
           · show HlS _ _ [] _
             refine hls_row (rowmt_mk rfl rfl rfl rfl (svsm_scal hsc)) ?_
             refine hls_row (rowmt_mk rfl rfl rfl rfl (svsm_scal xsc)) ?_
             refine hls_row (rowmt_mk rfl rfl rfl rfl (.cons (svm_same rfl) (.cons (svm_same rfl) (.cons (svm_sl rfl) .nil)))) ?_
             refine hls_row (rowmt_mk rfl rfl rfl rfl (.cons (svm_same rfl) (.cons (svm_same rfl) (.cons (svm_sl rfl) .nil)))) ?_
             refine hls_row (rowmt_mk rfl rfl rfl rfl (svsm_scal hscb)) ?_
             refine hls_row (rowmt_mk rfl rfl rfl rfl (svsm_scal hs2)) ?_
             exact hls_nil
           · rfl
           )
        | trace_state
    · unfold ag1
      by_cases hi : i + 1 ≤ 16
      · have cfold := hstep (i + 1) NC hNC hNle
        obtain ⟨K, hK⟩ : ∃ K, (C (i + 1 + 1)).length = K := ⟨_, rfl⟩
        have hle0 := hle (i + 1)
        have crun := hrun (i + 1 + 1) K hK (by omega)
        have hs1 := hsl (i + 1)
        have hs2 := hsl (i + 1 + 1)
        have hKC : K ≤ NC := by omega
        have hKB : K ≤ NB := by omega
        rw [hK] at cfold
        have q2 : IntKind.i64.wrap (((i + 1 : Nat) : Int) + 1) = ((i + 1 + 1 : Nat) : Int) := by rw [wi64 (by omega) (by omega)]; omega
        clear hstep hrun hmade hend hip
        generalize hLD : mcs (C (i + 1 + 1)) = LD at *
        generalize mcs (C (i + 1)) = LC at *
        (repeat' ((conv => whnf); first | (refine Eqs.mk true (eqt_ok _ ks16 rfl _ _ _ (by with_reducible exact hRe)) ?_)  |  ((first | apply Br.mk | apply Gd.mk) <;> (intro hb; first | (exact absurd hb (by decide)) | exact Bool.noConfusion (hb.symm.trans (by assumption) : true = false) | exact Bool.noConfusion (hb.symm.trans (by assumption) : false = true) | (exfalso; revert hb; simp only [beq_self_eq_true, Bool.and_true, Bool.and_self, reduceCtorEq, false_implies, bne_self_eq_false, imp_false, not_true_eq_false, not_false_eq_true, Bool.true_eq_false, Bool.false_eq_true]; done) | (simp only [decide_eq_true_eq, decide_eq_false_iff_not, beq_iff_eq, bne_iff_ne, beq_eq_false_iff_ne, bne_eq_false_iff_eq, Bool.not_eq_true', Bool.not_eq_false', Int.not_lt, Int.not_le, ge_iff_le, gt_iff_lt, ne_eq, Classical.not_not] at hb; first | (exfalso; omega) | skip) | skip))  |  (refine Eqs.mk _ (eqt_ok _ _ rfl _ _ _ rfl) ?_)  |  ((with_reducible apply Vl.mk (α := Int)); · with_reducible exact q2)  |  (apply Sd.mk; · first | exact xk)  |  (apply Sg.mk; · exact sg_all X xl)  |  (refine vcall_det (f := 12) cfold [⟨_, 0⟩] [(_, ⟨true, 6, LC⟩)] rfl ⟨rfl, trivial⟩ ⟨rfl, rowM_ro hs1, trivial⟩ ⟨rfl, noUp⟩ ?_)  |  (refine vcall_det (f := 18) crun [⟨_, 0⟩] [(_, ⟨true, 6, LD⟩)] (args2 rfl (congrArg AV.agg (ren_scal xsc).symm)) ⟨rfl, trivial⟩ ⟨rfl, rowM_ro hs2, trivial⟩ ⟨rfl, noUp⟩ ?_)  |  (refine vcall_det (f := 19) crr [⟨_, 0⟩] [(_, ⟨true, 6, LB⟩)] (args2 rfl (congrArg AV.agg (ren_scal xsc).symm)) ⟨rfl, trivial⟩ ⟨rfl, rowM_ro hscb, trivial⟩ ⟨rfl, noUp⟩ ?_) | (with_reducible apply sd_draw; · kernel_rfl) | (apply Sd.mk; · first | exact rfl | trivial | omega | (repeat' apply And.intro) <;> first | exact rfl | exact Nat.le_of_ble_eq_true rfl | omega | decide) | ((with_reducible apply Vl.mk (α := Int)); · (first | (with_reducible exact bits_keep _ _ _ _) | ((rewrite [tdiv_pos]); (focus (first | exact wi64 (by omega) (by omega) | exact wu32 (by omega) (by omega) | exact wi32 (by omega) (by omega))); omega) | exact tmod_pos (by omega) | exact wi64 (by omega) (by omega) | exact wu32 (by omega) (by omega) | exact wu32' _ | exact wu8 (by omega) (by omega) | exact wu64 (by omega) (by omega) | exact wi32 (by omega) (by omega) | rfl)) | ((with_reducible first | apply Vl.mk (α := Bool) | apply Vl.mk (α := Nat) | apply Vl.mk (α := ByteArray) | apply Ge.mk (α := Row) | apply Ge.mk (α := SV) | apply Ge.mk (α := AV)); · exact rfl) | (refine And.intro rfl ?_) | ((with_reducible first | apply Vl.mk (α := List SV) | apply Vl.mk (α := Ef) | apply Vl.mk (α := TV) | apply Ge.mk (α := List SV) | apply Sg.mk | apply Sk.mk); · (first | exact setAll_eq rfl | exact sg_all _ rfl | exact sk_all _ rfl rfl | ((first | apply sg_fc | apply sk_fc | (apply fc_eq; (conv => arg 1; whnf); apply fc_some) | apply fc_eq); (repeat' (first | exact fc_ren (wsv_scal _) | exact fc_ren (by assumption) | ((conv => arg 1; whnf); first | exact fc_nil | apply fc_cons | exact fc_int | exact fc_bool | exact fc_n | exact fc_ns | exact fc_ptr | exact fc_sl | exact fc_str | exact fc_unk | exact fc_fn | apply fc_s | apply fc_agg | apply fc_ta | apply fc_tup | exact fc_an | apply fc_ac | exact fc_tu | exact fc_nat | exact fc_bo | exact fc_none | apply fc_some | apply fc_pair | apply fc_row | apply fc_ef))); (all_goals exact rfl)) | ((dsimp only [Res.ef, renT, renA, renS, renN, nwN, upN, renRow, List.map_cons, List.map_nil, List.length_cons, List.length_nil]); first | done | exact rfl) | (dsimp only [setAll, List.set_cons_zero, List.set_cons_succ, List.cons_append, List.nil_append]; exact rfl) | exact rfl)) | ((first | apply Br.mk | apply Gd.mk) <;> (intro hb; first | (exact absurd hb (by decide)) | exact Bool.noConfusion (hb.symm.trans (by assumption) : true = false) | exact Bool.noConfusion (hb.symm.trans (by assumption) : false = true) | (simp only [decide_eq_true_eq, decide_eq_false_iff_not, beq_iff_eq, bne_iff_ne, beq_eq_false_iff_ne, bne_eq_false_iff_eq, Bool.not_eq_true', Bool.not_eq_false', Int.not_lt, Int.not_le, ge_iff_le, gt_iff_lt, ne_eq, Classical.not_not] at hb; first | (exfalso; omega) | skip) | skip)))); (all_goals (try (conv => whnf)))
        all_goals first
          | (refine ⟨mm - 1, ag1 NB LL X LB (i + 1 + 1) K LD, by omega, ?_, .inr ⟨i + 1, K, by omega, hK, hKB, by rw [hLD]; rfl⟩⟩
             apply wk_of (m := [(0, some 0), (1, some 1), (2, some 2), (3, some 3), (4, some 4), (5, some 131136)])
             · repeat' (first | exact tml_nil | apply tml_cons)
               all_goals first | exact tvm_a (avm_s (svm_same rfl)) | exact tvm_a (avm_s (svm_ptr rfl)) | exact tvm_a (avm_s (svm_sl rfl)) | exact tvm_a (avm_s (svm_slnil rfl))
             · show HlS _ _ [] _
               refine hls_row (rowmt_mk rfl rfl rfl rfl (svsm_scal hsc)) ?_
               refine hls_row (rowmt_mk rfl rfl rfl rfl (svsm_scal xsc)) ?_
               refine hls_row (rowmt_mk rfl rfl rfl rfl (.cons (svm_same rfl) (.cons (svm_same rfl) (.cons (svm_sl rfl) .nil)))) ?_
               refine hls_row (rowmt_mk rfl rfl rfl rfl (.cons (svm_same rfl) (.cons (svm_same rfl) (.cons (svm_sl rfl) .nil)))) ?_
               refine hls_row (rowmt_mk rfl rfl rfl rfl (svsm_scal hscb)) ?_
               refine hls_row (rowmt_mk rfl rfl rfl rfl (svsm_scal hs2)) ?_
               exact hls_nil
             · rfl
             )
          | trace_state
      · have hi16 : i = 16 := by omega
        subst hi16
        have cfold := hstep 17 NC hNC hNle
        have hen2 : C (17 + 1) = C 17 := by rw [hCs 17]; exact hend
        rw [hen2, hNC] at cfold
        have cs := sameblk_fn 0 NB ((C 17).map Mi.z) NC (by rw [List.length_map]; exact hNC) (by omega)
        rw [mzs_mcs] at cs
        have hs1 := hsl 17
        clear hstep hrun hmade hip
        generalize mcs (C 17) = LC at *
        (repeat' ((conv => whnf); first | ((first | apply Br.mk | apply Gd.mk) <;> (intro hb; first | (exact absurd hb (by decide)) | exact Bool.noConfusion (hb.symm.trans (by assumption) : true = false) | exact Bool.noConfusion (hb.symm.trans (by assumption) : false = true) | (exfalso; revert hb; simp only [beq_self_eq_true, Bool.and_true, Bool.and_self, reduceCtorEq, false_implies, bne_self_eq_false, imp_false, not_true_eq_false, not_false_eq_true, Bool.true_eq_false, Bool.false_eq_true]; done) | (simp only [decide_eq_true_eq, decide_eq_false_iff_not, beq_iff_eq, bne_iff_ne, beq_eq_false_iff_ne, bne_eq_false_iff_eq, Bool.not_eq_true', Bool.not_eq_false', Int.not_lt, Int.not_le, ge_iff_le, gt_iff_lt, ne_eq, Classical.not_not] at hb; first | (exfalso; omega) | skip) | skip))  |  (refine Eqs.mk _ (eqt_ok _ _ rfl _ _ _ rfl) ?_)  |  (refine vcall_det (f := 12) cfold [⟨_, 0⟩] [(_, ⟨true, 6, LC⟩)] rfl ⟨rfl, trivial⟩ ⟨rfl, rowM_ro hs1, trivial⟩ ⟨rfl, noUp⟩ ?_)  |  (refine vcall_det (f := 14) cs [⟨_, 0⟩, ⟨_, 0⟩] [(_, ⟨true, 6, LC⟩), (_, ⟨true, 6, LC⟩)] rfl ⟨rfl, rfl, trivial⟩ ⟨rfl, rowM_ro hs1, rfl, rowM_ro hs1, trivial⟩ ⟨rfl, noUp⟩ ?_)  |  (refine vcall_pure (f := 10) (awake16_fn) rfl ?_) | (with_reducible apply sd_draw; · kernel_rfl) | (apply Sd.mk; · first | exact rfl | trivial | omega | (repeat' apply And.intro) <;> first | exact rfl | exact Nat.le_of_ble_eq_true rfl | omega | decide) | ((with_reducible apply Vl.mk (α := Int)); · (first | (with_reducible exact bits_keep _ _ _ _) | ((rewrite [tdiv_pos]); (focus (first | exact wi64 (by omega) (by omega) | exact wu32 (by omega) (by omega) | exact wi32 (by omega) (by omega))); omega) | exact tmod_pos (by omega) | exact wi64 (by omega) (by omega) | exact wu32 (by omega) (by omega) | exact wu32' _ | exact wu8 (by omega) (by omega) | exact wu64 (by omega) (by omega) | exact wi32 (by omega) (by omega) | rfl)) | ((with_reducible first | apply Vl.mk (α := Bool) | apply Vl.mk (α := Nat) | apply Vl.mk (α := ByteArray) | apply Ge.mk (α := Row) | apply Ge.mk (α := SV) | apply Ge.mk (α := AV)); · exact rfl) | (refine And.intro rfl ?_) | ((with_reducible first | apply Vl.mk (α := List SV) | apply Vl.mk (α := Ef) | apply Vl.mk (α := TV) | apply Ge.mk (α := List SV) | apply Sg.mk | apply Sk.mk); · (first | exact setAll_eq rfl | exact sg_all _ rfl | exact sk_all _ rfl rfl | ((first | apply sg_fc | apply sk_fc | (apply fc_eq; (conv => arg 1; whnf); apply fc_some) | apply fc_eq); (repeat' (first | exact fc_ren (wsv_scal _) | exact fc_ren (by assumption) | ((conv => arg 1; whnf); first | exact fc_nil | apply fc_cons | exact fc_int | exact fc_bool | exact fc_n | exact fc_ns | exact fc_ptr | exact fc_sl | exact fc_str | exact fc_unk | exact fc_fn | apply fc_s | apply fc_agg | apply fc_ta | apply fc_tup | exact fc_an | apply fc_ac | exact fc_tu | exact fc_nat | exact fc_bo | exact fc_none | apply fc_some | apply fc_pair | apply fc_row | apply fc_ef))); (all_goals exact rfl)) | ((dsimp only [Res.ef, renT, renA, renS, renN, nwN, upN, renRow, List.map_cons, List.map_nil, List.length_cons, List.length_nil]); first | done | exact rfl) | (dsimp only [setAll, List.set_cons_zero, List.set_cons_succ, List.cons_append, List.nil_append]; exact rfl) | exact rfl)) | ((first | apply Br.mk | apply Gd.mk) <;> (intro hb; first | (exact absurd hb (by decide)) | exact Bool.noConfusion (hb.symm.trans (by assumption) : true = false) | exact Bool.noConfusion (hb.symm.trans (by assumption) : false = true) | (simp only [decide_eq_true_eq, decide_eq_false_iff_not, beq_iff_eq, bne_iff_ne, beq_eq_false_iff_ne, bne_eq_false_iff_eq, Bool.not_eq_true', Bool.not_eq_false', Int.not_lt, Int.not_le, ge_iff_le, gt_iff_lt, ne_eq, Classical.not_not] at hb; first | (exfalso; omega) | skip) | skip)))); (all_goals (try (conv => whnf)))
        all_goals first | (apply Fin.mk (m := [(0, some 0)]); (focus exact rfl); (all_goals ((try (show HlS _ _ [] _)); first | ((repeat' (first | exact SVsM.nil | exact avsm_nil | exact svm_same rfl | exact svm_ptr rfl | exact svm_sl rfl | exact svm_slnil rfl | exact svsm_scal rfl | exact svsm_scal (wsv_scal _) | exact svsm_scal (by assumption) | exact hls_nil | apply SVsM.cons | apply tvm_a | apply tvm_tup | apply avm_agg | apply avm_s | apply avsm_cons | exact trivial | (refine hls_skip rfl ?_) | apply hls_none | apply hls_row | (refine rowmt_mk rfl rfl rfl rfl ?_) | exact rowmt_nil rfl rfl)); done) | exact rfl))) | trace_state
theorem again16_fn (ls : List Int) (n : Nat) (hn : ls.length = n) (hn2 : n ≤ 9223372036854775807) (x : List Nat) (hx : x.length = 16) (hxr : ∀ y ∈ x, y < 4294967296) :
    Fn Try.prog 9 [.s (.sl 0 0 n), .agg (wsv x)] [⟨false, 1, isv .i64 ls⟩] (· = ⟨.a (.s (.bool true)), [], []⟩) := by
  by_cases h : n > 30 ∨ n = 0
  · exact againA_fn ls n hn hn2 h x hx
  · exact againB_fn ls n hn (by omega) (by omega) x hx hxr
end Go.Proofs.Ytpkbfpjkpiimiaa
