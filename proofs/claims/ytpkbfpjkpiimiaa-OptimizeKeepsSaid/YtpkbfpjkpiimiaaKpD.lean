/- OptimizeKeeps. -/
import Derived.Test.YtpkbfpjkpiimiaaKpC
namespace Go.Proofs.Ytpkbfpjkpiimiaa
open Go Go.RowKit
set_option linter.unusedSimpArgs false
set_option linter.unusedVariables false

def kst (n : Nat) (kinds : Int) (LL : List SV) (NB NC : Nat) (LB LC : List SV) (i : Nat) (s : Int) : St :=
  ⟨[(5, .a (.s (.ptr 1 0))), (6, .a (.s (.ptr 2 0))), (7, .a (.s (.int .i64 s))), (8, .a (.s (.int .i64 i)))],
   [(0, some ⟨false, 1, LL⟩), (1, some ⟨true, 1, [.int .u32 0, .int .i64 NB, .sl 3 0 NB]⟩), (2, some ⟨true, 1, [.int .u32 0, .int .i64 NB, .sl 4 0 NC]⟩), (3, some ⟨true, 6, LB⟩), (4, some ⟨true, 6, LC⟩)], [0]⟩
set_option maxHeartbeats 1000000 in
set_option maxRecDepth 100000 in
theorem keepsA_fn (ls : List Int) (n : Nat) (hn : ls.length = n) (hn2 : n ≤ 9223372036854775807) (h : n > 30 ∨ n = 0) (kinds : Int) :
    Fn Try.prog 6 [.s (.sl 0 0 n), .s (.int .i64 kinds)] [⟨false, 1, isv .i64 ls⟩] (· = ⟨.a (.s (.bool true)), [], []⟩) := by
  have hsc := isv_scal .i64 ls
  generalize isv .i64 ls = LL at *
  refine fn_of_vc mixed tys_ok _ _ Try.func6 (by kernel_rfl) rfl Try.ntmps6 (by rw [Try.results6]) rfl ?_; dsimp only [argTm, argHl, Nat.zero_add, Nat.reduceAdd, List.length_nil, List.length_cons]
  (repeat' ((conv => whnf); first | ((first | apply Br.mk | apply Gd.mk) <;> (intro hb; first | (exact absurd hb (by decide)) | exact Bool.noConfusion (hb.symm.trans (by assumption) : true = false) | exact Bool.noConfusion (hb.symm.trans (by assumption) : false = true) | (exfalso; revert hb; simp only [beq_self_eq_true, Bool.and_true, Bool.and_self, reduceCtorEq, false_implies, bne_self_eq_false, imp_false, not_true_eq_false, not_false_eq_true, Bool.true_eq_false, Bool.false_eq_true]; done) | (simp only [decide_eq_true_eq, decide_eq_false_iff_not, beq_iff_eq, bne_iff_ne, beq_eq_false_iff_ne, bne_eq_false_iff_eq, Bool.not_eq_true', Bool.not_eq_false', Int.not_lt, Int.not_le, ge_iff_le, gt_iff_lt, ne_eq, Classical.not_not] at hb; first | (exfalso; omega) | skip) | skip))  |  (refine Eqs.mk _ (eqt_ok _ _ rfl _ _ _ rfl) ?_)  |  (refine vcall_pure (f := 10) (awake16_fn) rfl ?_) | (with_reducible apply sd_draw; · kernel_rfl) | (apply Sd.mk; · first | exact rfl | trivial | omega | (repeat' apply And.intro) <;> first | exact rfl | exact Nat.le_of_ble_eq_true rfl | omega | decide) | ((with_reducible apply Vl.mk (α := Int)); · (first | (with_reducible exact bits_keep _ _ _ _) | ((rewrite [tdiv_pos]); (focus (first | exact wi64 (by omega) (by omega) | exact wu32 (by omega) (by omega) | exact wi32 (by omega) (by omega))); omega) | exact tmod_pos (by omega) | exact wi64 (by omega) (by omega) | exact wu32 (by omega) (by omega) | exact wu32' _ | exact wu8 (by omega) (by omega) | exact wu64 (by omega) (by omega) | exact wi32 (by omega) (by omega) | rfl)) | ((with_reducible first | apply Vl.mk (α := Bool) | apply Vl.mk (α := Nat) | apply Vl.mk (α := ByteArray) | apply Ge.mk (α := Row) | apply Ge.mk (α := SV) | apply Ge.mk (α := AV)); · exact rfl) | (refine And.intro rfl ?_) | ((with_reducible first | apply Vl.mk (α := List SV) | apply Vl.mk (α := Ef) | apply Vl.mk (α := TV) | apply Ge.mk (α := List SV) | apply Sg.mk | apply Sk.mk); · (first | exact setAll_eq rfl | exact sg_all _ rfl | exact sk_all _ rfl rfl | ((first | apply sg_fc | apply sk_fc | (apply fc_eq; (conv => arg 1; whnf); apply fc_some) | apply fc_eq); (repeat' (first | exact fc_ren (wsv_scal _) | exact fc_ren (by assumption) | ((conv => arg 1; whnf); first | exact fc_nil | apply fc_cons | exact fc_int | exact fc_bool | exact fc_n | exact fc_ns | exact fc_ptr | exact fc_sl | exact fc_str | exact fc_unk | exact fc_fn | apply fc_s | apply fc_agg | apply fc_ta | apply fc_tup | exact fc_an | apply fc_ac | exact fc_tu | exact fc_nat | exact fc_bo | exact fc_none | apply fc_some | apply fc_pair | apply fc_row | apply fc_ef))); (all_goals exact rfl)) | ((dsimp only [Res.ef, renT, renA, renS, renN, nwN, upN, renRow, List.map_cons, List.map_nil, List.length_cons, List.length_nil]); first | done | exact rfl) | (dsimp only [setAll, List.set_cons_zero, List.set_cons_succ, List.cons_append, List.nil_append]; exact rfl) | exact rfl)) | ((first | apply Br.mk | apply Gd.mk) <;> (intro hb; first | (exact absurd hb (by decide)) | exact Bool.noConfusion (hb.symm.trans (by assumption) : true = false) | exact Bool.noConfusion (hb.symm.trans (by assumption) : false = true) | (simp only [decide_eq_true_eq, decide_eq_false_iff_not, beq_iff_eq, bne_iff_ne, beq_eq_false_iff_ne, bne_eq_false_iff_eq, Bool.not_eq_true', Bool.not_eq_false', Int.not_lt, Int.not_le, ge_iff_le, gt_iff_lt, ne_eq, Classical.not_not] at hb; first | (exfalso; omega) | skip) | skip)))); (all_goals (try (conv => whnf)))
  all_goals (apply Fin.mk (m := [(0, some 0)]); (focus exact rfl); (all_goals ((try (show HlS _ _ [] _)); first | ((repeat' (first | exact SVsM.nil | exact avsm_nil | exact svm_same rfl | exact svm_ptr rfl | exact svm_sl rfl | exact svm_slnil rfl | exact svsm_scal rfl | exact svsm_scal (wsv_scal _) | exact svsm_scal (by assumption) | exact hls_nil | apply SVsM.cons | apply tvm_a | apply tvm_tup | apply avm_agg | apply avm_s | apply avsm_cons | exact trivial | (refine hls_skip rfl ?_) | apply hls_none | apply hls_row | (refine rowmt_mk rfl rfl rfl rfl ?_) | exact rowmt_nil rfl rfl)); done) | exact rfl)))
set_option maxHeartbeats 1000000 in
set_option maxRecDepth 100000 in
theorem keepsB_fn (ls : List Int) (n : Nat) (hn : ls.length = n) (h30 : n ≤ 30) (h0 : 0 < n) (kinds : Int) :
    Fn Try.prog 6 [.s (.sl 0 0 n), .s (.int .i64 kinds)] [⟨false, 1, isv .i64 ls⟩] (· = ⟨.a (.s (.bool true)), [], []⟩) := by
  have hmade := made_fn ls n hn (by omega) h0 kinds
  have hlen := madeL_len (kinds % 3) 16 ls
  have hpos := hlen.2 (by omega) (by omega)
  have hmok := fun m hm => (madeL_ok (kinds % 3) 16 ls m hm).1
  have hmay := made_may (kinds % 3) ls (by omega)
  generalize madeL (kinds % 3) 16 ls = l at *
  obtain ⟨NB, hNB⟩ : ∃ N, l.length = N := ⟨_, rfl⟩
  obtain ⟨NC, hNC⟩ : ∃ N, (fldL l).length = N := ⟨_, rfl⟩
  rw [hNB] at hmade hmay hlen hpos
  have hle : NC ≤ NB := by rw [← hNB, ← hNC]; exact fldL_le l
  have hmayc := fldL_may 0 NB l (by omega) hmok hmay
  have cfold := foldI_fn 0 (by omega) NB l NB NC hNB (by omega) hpos hmok hmay hNC
  have cmayb := mayI_fn 0 (by omega) NB l NB hNB (by omega) hmay
  have cmayc := mayI_fn 0 (by omega) NB (fldL l) NC hNC (by omega) hmayc
  have ccb := cost_fn 0 NB (mcs l) (mcs_scal l) NB
  have ccc := cost_fn 0 NB (mcs (fldL l)) (mcs_scal _) NC
  have hsum := ((mayV_iff _ _ _).1 hmayc).2
  have hsc := isv_scal .i64 ls
  have hsb := mcs_scal l
  have hscc := mcs_scal (fldL l)
  have hat := mcs_at (fldL l)
  generalize fldL l = c at *
  generalize mcs l = LB at *
  generalize mcs c = LC at *
  generalize isv .i64 ls = LL at *
  refine fn_of_vc mixed tys_ok _ _ Try.func6 (by kernel_rfl) rfl Try.ntmps6 (by rw [Try.results6]) rfl ?_; dsimp only [argTm, argHl, Nat.zero_add, Nat.reduceAdd, List.length_nil, List.length_cons]
  (repeat' ((conv => whnf); first | ((first | apply Br.mk | apply Gd.mk) <;> (intro hb; first | (exact absurd hb (by decide)) | exact Bool.noConfusion (hb.symm.trans (by assumption) : true = false) | exact Bool.noConfusion (hb.symm.trans (by assumption) : false = true) | (exfalso; revert hb; simp only [beq_self_eq_true, Bool.and_true, Bool.and_self, reduceCtorEq, false_implies, bne_self_eq_false, imp_false, not_true_eq_false, not_false_eq_true, Bool.true_eq_false, Bool.false_eq_true]; done) | (simp only [decide_eq_true_eq, decide_eq_false_iff_not, beq_iff_eq, bne_iff_ne, beq_eq_false_iff_ne, bne_eq_false_iff_eq, Bool.not_eq_true', Bool.not_eq_false', Int.not_lt, Int.not_le, ge_iff_le, gt_iff_lt, ne_eq, Classical.not_not] at hb; first | (exfalso; omega) | skip) | skip))  |  (refine Eqs.mk _ (eqt_ok _ _ rfl _ _ _ rfl) ?_)  |  (refine vcall_det (f := 11) hmade [⟨0, 0⟩] [(0, ⟨false, 1, LL⟩)] rfl ⟨rfl, trivial⟩ ⟨rfl, rowM_ro hsc, trivial⟩ ⟨rfl, noUp⟩ ?_)  |  (refine vcall_det (f := 12) cfold [⟨_, 0⟩] [(_, ⟨true, 6, LB⟩)] rfl ⟨rfl, trivial⟩ ⟨rfl, rowM_ro hsb, trivial⟩ ⟨rfl, noUp⟩ ?_) | (with_reducible apply sd_draw; · kernel_rfl) | (apply Sd.mk; · first | exact rfl | trivial | omega | (repeat' apply And.intro) <;> first | exact rfl | exact Nat.le_of_ble_eq_true rfl | omega | decide) | ((with_reducible apply Vl.mk (α := Int)); · (first | (with_reducible exact bits_keep _ _ _ _) | ((rewrite [tdiv_pos]); (focus (first | exact wi64 (by omega) (by omega) | exact wu32 (by omega) (by omega) | exact wi32 (by omega) (by omega))); omega) | exact tmod_pos (by omega) | exact wi64 (by omega) (by omega) | exact wu32 (by omega) (by omega) | exact wu32' _ | exact wu8 (by omega) (by omega) | exact wu64 (by omega) (by omega) | exact wi32 (by omega) (by omega) | rfl)) | ((with_reducible first | apply Vl.mk (α := Bool) | apply Vl.mk (α := Nat) | apply Vl.mk (α := ByteArray) | apply Ge.mk (α := Row) | apply Ge.mk (α := SV) | apply Ge.mk (α := AV)); · exact rfl) | (refine And.intro rfl ?_) | ((with_reducible first | apply Vl.mk (α := List SV) | apply Vl.mk (α := Ef) | apply Vl.mk (α := TV) | apply Ge.mk (α := List SV) | apply Sg.mk | apply Sk.mk); · (first | exact setAll_eq rfl | exact sg_all _ rfl | exact sk_all _ rfl rfl | ((first | apply sg_fc | apply sk_fc | (apply fc_eq; (conv => arg 1; whnf); apply fc_some) | apply fc_eq); (repeat' (first | exact fc_ren (wsv_scal _) | exact fc_ren (by assumption) | ((conv => arg 1; whnf); first | exact fc_nil | apply fc_cons | exact fc_int | exact fc_bool | exact fc_n | exact fc_ns | exact fc_ptr | exact fc_sl | exact fc_str | exact fc_unk | exact fc_fn | apply fc_s | apply fc_agg | apply fc_ta | apply fc_tup | exact fc_an | apply fc_ac | exact fc_tu | exact fc_nat | exact fc_bo | exact fc_none | apply fc_some | apply fc_pair | apply fc_row | apply fc_ef))); (all_goals exact rfl)) | ((dsimp only [Res.ef, renT, renA, renS, renN, nwN, upN, renRow, List.map_cons, List.map_nil, List.length_cons, List.length_nil]); first | done | exact rfl) | (dsimp only [setAll, List.set_cons_zero, List.set_cons_succ, List.cons_append, List.nil_append]; exact rfl) | exact rfl)) | ((first | apply Br.mk | apply Gd.mk) <;> (intro hb; first | (exact absurd hb (by decide)) | exact Bool.noConfusion (hb.symm.trans (by assumption) : true = false) | exact Bool.noConfusion (hb.symm.trans (by assumption) : false = true) | (simp only [decide_eq_true_eq, decide_eq_false_iff_not, beq_iff_eq, bne_iff_ne, beq_eq_false_iff_ne, bne_eq_false_iff_eq, Bool.not_eq_true', Bool.not_eq_false', Int.not_lt, Int.not_le, ge_iff_le, gt_iff_lt, ne_eq, Classical.not_not] at hb; first | (exfalso; omega) | skip) | skip)))); (all_goals (try (conv => whnf)))
  refine Lp.inv (fun mm σ => ∃ (i : Nat) (s : Int), mm + i = NC ∧ 0 ≤ s ∧ s ≤ 16 * i ∧ maySum ((c.drop i).map Mi.z) s = some (NB : Int) ∧ σ = kst n kinds LL NB NC LB LC i s) ?_ ?_
  · refine ⟨NC, kst n kinds LL NB NC LB LC 0 0, ?_, 0, 0, by omega, by omega, by omega, hsum, rfl⟩
    apply wk_of (m := [(0, some 0), (1, some 196800), (2, some 262272), (3, some 196736), (4, some 262208)])
    · repeat' (first | exact tml_nil | apply tml_cons)
      all_goals first | exact tvm_a (avm_s (svm_same rfl)) | exact tvm_a (avm_s (svm_ptr rfl)) | exact tvm_a (avm_s (svm_sl rfl))
    · show HlS _ _ [] _
      refine hls_row (rowmt_mk rfl rfl rfl rfl (svsm_scal hsc)) ?_
      refine hls_row (rowmt_mk rfl rfl rfl rfl (.cons (svm_same rfl) (.cons (svm_same rfl) (.cons (svm_sl rfl) .nil)))) ?_
      refine hls_row (rowmt_mk rfl rfl rfl rfl (.cons (svm_same rfl) (.cons (svm_same rfl) (.cons (svm_sl rfl) .nil)))) ?_
      refine hls_row (rowmt_mk rfl rfl rfl rfl (svsm_scal hsb)) ?_
      refine hls_row (rowmt_mk rfl rfl rfl rfl (svsm_scal hscc)) ?_
      exact hls_nil
    · rfl
  · clear hmade cfold
    rintro mm σ ⟨i, s, hmi, hs0, hs1, hinv, rfl⟩
    unfold kst
    by_cases hi : i < NC
    · obtain ⟨⟨o, a, b, cc, k, m⟩, hm⟩ : ∃ m, c[i]? = some m := ⟨c[i]'(by omega), List.getElem?_eq_getElem (by omega)⟩
      have hd : c.drop i = ⟨o, a, b, cc, k, m⟩ :: c.drop (i + 1) := by
        have hlt := (List.getElem?_eq_some_iff.1 hm).1
        rw [List.drop_eq_getElem_cons hlt]
        congr 1
        exact (List.getElem?_eq_some_iff.1 hm).2
      have hge := hat i _ hm 5 (by omega)
      change LC[i * 6 + 5]? = some (.int .i64 m) at hge
      rw [hd, List.map_cons, maySum] at hinv
      split at hinv
      · rename_i hok
        have hn := okM_n hok
        change 1 ≤ m ∧ m ≤ 16 at hn
        change maySum _ (s + m) = _ at hinv
        have q1 : IntKind.i64.wrap (s + m) = s + m := wi64 (by omega) (by omega)
        have q2 : IntKind.i64.wrap ((i : Int) + 1) = ((i + 1 : Nat) : Int) := by rw [wi64 (by omega) (by omega)]; omega
        have x1 : 0 + ((i : Nat) : Int).toNat * ty39.size = i * 6 := by show 0 + ((i : Nat) : Int).toNat * 6 = _; omega
        (repeat' ((conv => whnf); first | ((with_reducible apply Vl.mk (α := Int)); · with_reducible first | exact q1 | exact q2)  |  ((with_reducible apply Vl.mk (α := Nat)); · with_reducible exact x1)  |  ((with_reducible apply Ge.mk (α := SV)); · exact hge) | (with_reducible apply sd_draw; · kernel_rfl) | (apply Sd.mk; · first | exact rfl | trivial | omega | (repeat' apply And.intro) <;> first | exact rfl | exact Nat.le_of_ble_eq_true rfl | omega | decide) | ((with_reducible apply Vl.mk (α := Int)); · (first | (with_reducible exact bits_keep _ _ _ _) | ((rewrite [tdiv_pos]); (focus (first | exact wi64 (by omega) (by omega) | exact wu32 (by omega) (by omega) | exact wi32 (by omega) (by omega))); omega) | exact tmod_pos (by omega) | exact wi64 (by omega) (by omega) | exact wu32 (by omega) (by omega) | exact wu32' _ | exact wu8 (by omega) (by omega) | exact wu64 (by omega) (by omega) | exact wi32 (by omega) (by omega) | rfl)) | ((with_reducible first | apply Vl.mk (α := Bool) | apply Vl.mk (α := Nat) | apply Vl.mk (α := ByteArray) | apply Ge.mk (α := Row) | apply Ge.mk (α := SV) | apply Ge.mk (α := AV)); · exact rfl) | (refine And.intro rfl ?_) | ((with_reducible first | apply Vl.mk (α := List SV) | apply Vl.mk (α := Ef) | apply Vl.mk (α := TV) | apply Ge.mk (α := List SV) | apply Sg.mk | apply Sk.mk); · (first | exact setAll_eq rfl | exact sg_all _ rfl | exact sk_all _ rfl rfl | ((first | apply sg_fc | apply sk_fc | (apply fc_eq; (conv => arg 1; whnf); apply fc_some) | apply fc_eq); (repeat' (first | exact fc_ren (wsv_scal _) | exact fc_ren (by assumption) | ((conv => arg 1; whnf); first | exact fc_nil | apply fc_cons | exact fc_int | exact fc_bool | exact fc_n | exact fc_ns | exact fc_ptr | exact fc_sl | exact fc_str | exact fc_unk | exact fc_fn | apply fc_s | apply fc_agg | apply fc_ta | apply fc_tup | exact fc_an | apply fc_ac | exact fc_tu | exact fc_nat | exact fc_bo | exact fc_none | apply fc_some | apply fc_pair | apply fc_row | apply fc_ef))); (all_goals exact rfl)) | ((dsimp only [Res.ef, renT, renA, renS, renN, nwN, upN, renRow, List.map_cons, List.map_nil, List.length_cons, List.length_nil]); first | done | exact rfl) | (dsimp only [setAll, List.set_cons_zero, List.set_cons_succ, List.cons_append, List.nil_append]; exact rfl) | exact rfl)) | ((first | apply Br.mk | apply Gd.mk) <;> (intro hb; first | (exact absurd hb (by decide)) | exact Bool.noConfusion (hb.symm.trans (by assumption) : true = false) | exact Bool.noConfusion (hb.symm.trans (by assumption) : false = true) | (simp only [decide_eq_true_eq, decide_eq_false_iff_not, beq_iff_eq, bne_iff_ne, beq_eq_false_iff_ne, bne_eq_false_iff_eq, Bool.not_eq_true', Bool.not_eq_false', Int.not_lt, Int.not_le, ge_iff_le, gt_iff_lt, ne_eq, Classical.not_not] at hb; first | (exfalso; omega) | skip) | skip)))); (all_goals (try (conv => whnf)))
        all_goals first
          | (refine ⟨mm - 1, kst n kinds LL NB NC LB LC (i + 1) (s + m), by omega, ?_, i + 1, s + m, by omega, by omega, by omega, hinv, rfl⟩
             apply wk_of (m := [(0, some 0), (1, some 1), (2, some 2), (3, some 3), (4, some 4)])
             · repeat' (first | exact tml_nil | apply tml_cons)
               all_goals first | exact tvm_a (avm_s (svm_same rfl)) | exact tvm_a (avm_s (svm_ptr rfl)) | exact tvm_a (avm_s (svm_sl rfl))
             · show HlS _ _ [] _
               refine hls_row (rowmt_mk rfl rfl rfl rfl (svsm_scal hsc)) ?_
               refine hls_row (rowmt_mk rfl rfl rfl rfl (.cons (svm_same rfl) (.cons (svm_same rfl) (.cons (svm_sl rfl) .nil)))) ?_
               refine hls_row (rowmt_mk rfl rfl rfl rfl (.cons (svm_same rfl) (.cons (svm_same rfl) (.cons (svm_sl rfl) .nil)))) ?_
               refine hls_row (rowmt_mk rfl rfl rfl rfl (svsm_scal hsb)) ?_
               refine hls_row (rowmt_mk rfl rfl rfl rfl (svsm_scal hscc)) ?_
               exact hls_nil
             · rfl
            )
          | trace_state
      · cases hinv
    · have hdn : c.drop i = [] := List.drop_eq_nil_of_le (by omega)
      rw [hdn] at hinv
      injection hinv with hinv
      subst hinv
      (repeat' ((conv => whnf); first | ((first | apply Br.mk | apply Gd.mk) <;> (intro hb; first | (exact absurd hb (by decide)) | exact Bool.noConfusion (hb.symm.trans (by assumption) : true = false) | exact Bool.noConfusion (hb.symm.trans (by assumption) : false = true) | (exfalso; revert hb; simp only [beq_self_eq_true, Bool.and_true, Bool.and_self, reduceCtorEq, false_implies, bne_self_eq_false, imp_false, not_true_eq_false, not_false_eq_true, Bool.true_eq_false, Bool.false_eq_true]; done) | (simp only [decide_eq_true_eq, decide_eq_false_iff_not, beq_iff_eq, bne_iff_ne, beq_eq_false_iff_ne, bne_eq_false_iff_eq, Bool.not_eq_true', Bool.not_eq_false', Int.not_lt, Int.not_le, ge_iff_le, gt_iff_lt, ne_eq, Classical.not_not] at hb; first | (exfalso; omega) | skip) | skip))  |  (refine Eqs.mk _ (eqt_ok _ _ rfl _ _ _ rfl) ?_)  |  (refine vcall_det (f := 20) cmayb [⟨_, 0⟩] [(_, ⟨true, 6, LB⟩)] rfl ⟨rfl, trivial⟩ ⟨rfl, rowM_ro hsb, trivial⟩ ⟨rfl, noUp⟩ ?_)  |  (refine vcall_det (f := 20) cmayc [⟨_, 0⟩] [(_, ⟨true, 6, LC⟩)] rfl ⟨rfl, trivial⟩ ⟨rfl, rowM_ro hscc, trivial⟩ ⟨rfl, noUp⟩ ?_)  |  (refine vcall_det (f := 15) ccb [⟨_, 0⟩] [(_, ⟨true, 6, LB⟩)] rfl ⟨rfl, trivial⟩ ⟨rfl, rowM_ro hsb, trivial⟩ ⟨rfl, noUp⟩ ?_)  |  (refine vcall_det (f := 15) ccc [⟨_, 0⟩] [(_, ⟨true, 6, LC⟩)] rfl ⟨rfl, trivial⟩ ⟨rfl, rowM_ro hscc, trivial⟩ ⟨rfl, noUp⟩ ?_)  |  (refine vcall_pure (f := 10) (awake16_fn) rfl ?_) | (with_reducible apply sd_draw; · kernel_rfl) | (apply Sd.mk; · first | exact rfl | trivial | omega | (repeat' apply And.intro) <;> first | exact rfl | exact Nat.le_of_ble_eq_true rfl | omega | decide) | ((with_reducible apply Vl.mk (α := Int)); · (first | (with_reducible exact bits_keep _ _ _ _) | ((rewrite [tdiv_pos]); (focus (first | exact wi64 (by omega) (by omega) | exact wu32 (by omega) (by omega) | exact wi32 (by omega) (by omega))); omega) | exact tmod_pos (by omega) | exact wi64 (by omega) (by omega) | exact wu32 (by omega) (by omega) | exact wu32' _ | exact wu8 (by omega) (by omega) | exact wu64 (by omega) (by omega) | exact wi32 (by omega) (by omega) | rfl)) | ((with_reducible first | apply Vl.mk (α := Bool) | apply Vl.mk (α := Nat) | apply Vl.mk (α := ByteArray) | apply Ge.mk (α := Row) | apply Ge.mk (α := SV) | apply Ge.mk (α := AV)); · exact rfl) | (refine And.intro rfl ?_) | ((with_reducible first | apply Vl.mk (α := List SV) | apply Vl.mk (α := Ef) | apply Vl.mk (α := TV) | apply Ge.mk (α := List SV) | apply Sg.mk | apply Sk.mk); · (first | exact setAll_eq rfl | exact sg_all _ rfl | exact sk_all _ rfl rfl | ((first | apply sg_fc | apply sk_fc | (apply fc_eq; (conv => arg 1; whnf); apply fc_some) | apply fc_eq); (repeat' (first | exact fc_ren (wsv_scal _) | exact fc_ren (by assumption) | ((conv => arg 1; whnf); first | exact fc_nil | apply fc_cons | exact fc_int | exact fc_bool | exact fc_n | exact fc_ns | exact fc_ptr | exact fc_sl | exact fc_str | exact fc_unk | exact fc_fn | apply fc_s | apply fc_agg | apply fc_ta | apply fc_tup | exact fc_an | apply fc_ac | exact fc_tu | exact fc_nat | exact fc_bo | exact fc_none | apply fc_some | apply fc_pair | apply fc_row | apply fc_ef))); (all_goals exact rfl)) | ((dsimp only [Res.ef, renT, renA, renS, renN, nwN, upN, renRow, List.map_cons, List.map_nil, List.length_cons, List.length_nil]); first | done | exact rfl) | (dsimp only [setAll, List.set_cons_zero, List.set_cons_succ, List.cons_append, List.nil_append]; exact rfl) | exact rfl)) | ((first | apply Br.mk | apply Gd.mk) <;> (intro hb; first | (exact absurd hb (by decide)) | exact Bool.noConfusion (hb.symm.trans (by assumption) : true = false) | exact Bool.noConfusion (hb.symm.trans (by assumption) : false = true) | (simp only [decide_eq_true_eq, decide_eq_false_iff_not, beq_iff_eq, bne_iff_ne, beq_eq_false_iff_ne, bne_eq_false_iff_eq, Bool.not_eq_true', Bool.not_eq_false', Int.not_lt, Int.not_le, ge_iff_le, gt_iff_lt, ne_eq, Classical.not_not] at hb; first | (exfalso; omega) | skip) | skip)))); (all_goals (try (conv => whnf)))
      all_goals first | (apply Fin.mk (m := [(0, some 0)]); (focus exact rfl); (all_goals ((try (show HlS _ _ [] _)); first | ((repeat' (first | exact SVsM.nil | exact avsm_nil | exact svm_same rfl | exact svm_ptr rfl | exact svm_sl rfl | exact svm_slnil rfl | exact svsm_scal rfl | exact svsm_scal (wsv_scal _) | exact svsm_scal (by assumption) | exact hls_nil | apply SVsM.cons | apply tvm_a | apply tvm_tup | apply avm_agg | apply avm_s | apply avsm_cons | exact trivial | (refine hls_skip rfl ?_) | apply hls_none | apply hls_row | (refine rowmt_mk rfl rfl rfl rfl ?_) | exact rowmt_nil rfl rfl)); done) | exact rfl))) | trace_state
theorem keeps16_fn (ls : List Int) (n : Nat) (hn : ls.length = n) (hn2 : n ≤ 9223372036854775807) (kinds : Int) :
    Fn Try.prog 6 [.s (.sl 0 0 n), .s (.int .i64 kinds)] [⟨false, 1, isv .i64 ls⟩] (· = ⟨.a (.s (.bool true)), [], []⟩) := by
  by_cases h : n > 30 ∨ n = 0
  · exact keepsA_fn ls n hn hn2 h kinds
  · exact keepsB_fn ls n hn (by omega) (by omega) kinds
end Go.Proofs.Ytpkbfpjkpiimiaa
