/- made: blocks made from numbers. -/
import Derived.Test.YtpkbfpjkpiimiaaMicA
namespace Go.Proofs.Ytpkbfpjkpiimiaa
open Go Go.RowKit
set_option linter.unusedSimpArgs false
set_option linter.unusedVariables false

theorem inst_lui (n : Int) : ∀ i, i = iv 1 1 2 3 0 → ∃ o a b c m : Int, GoodI i o a b c m := fun i h => ⟨1, 1, 2, 3, 0, h, by unfold opOk; omega, by omega, by omega, by omega, by omega, by omega, by omega, by omega, by omega⟩
theorem pk_good (n kinds : Int) : ∀ (f : Nat) (i : List SV), (∃ o a b c m : Int, GoodI i o a b c m) → ∃ o a b c m : Int, GoodI (pk n kinds f i) o a b c m
  | 0, i, h => h
  | f + 1, i, h => by
    unfold pk
    split
    · obtain ⟨a, b, c, m, hg⟩ := inst_good (mix n (39 - f))
      exact pk_good n kinds f _ ⟨_, a, b, c, m, hg⟩
    · exact h
theorem picked_good (n kinds : Int) : ∃ o a b c m : Int, GoodI (picked n kinds) o a b c m ∧ badI o kinds = false := by
  unfold picked
  split
  · obtain ⟨a, b, c, m, hg⟩ := inst_good n
    exact ⟨1, 1, 2, 3, 0, ⟨rfl, by unfold opOk; omega, by omega, by omega, by omega, by omega, by omega, by omega, by omega, by omega⟩, by unfold badI; exact decide_eq_false (by omega)⟩
  · rename_i hb
    obtain ⟨a, b, c, m, hg⟩ := inst_good n
    obtain ⟨o, a, b, c, m, hg⟩ := pk_good n kinds 39 _ ⟨_, a, b, c, m, hg⟩
    refine ⟨o, a, b, c, m, hg, ?_⟩
    rw [hg.1] at hb
    change ¬ badI o kinds = true at hb
    cases hq : badI o kinds with
    | false => rfl
    | true => exact absurd hq hb
/-- What is known of an operation made from a number. -/
theorem microV_ok (n kinds : Int) : opOk (microV n kinds).o ∧ (microV n kinds).a < 4 ∧ (microV n kinds).b < 4 ∧ (microV n kinds).c < 4 ∧ (microV n kinds).k < 4294967296 ∧ (microV n kinds).n = 1 ∧ badI (microV n kinds).o kinds = false := by
  obtain ⟨o, a, b, c, m, hg, hb⟩ := picked_good n kinds
  unfold microV
  rw [hg.1]
  simp only [micM, iv]
  refine ⟨hg.2.1, by omega, by omega, by omega, ?_, trivial, hb⟩
  split
  · have : 0 ≤ mix n 40 % 4294967296 ∧ mix n 40 % 4294967296 < 4294967296 := by omega
    generalize mix n 40 % 4294967296 = X at *
    omega
  · omega
def madeL (kd : Int) : Nat → List Int → List Mi
  | f + 1, x :: l => if endsB (microV x kd).o = true then [microV x kd] else microV x kd :: madeL kd f l
  | _, _ => []
def mast (n : Nat) (kinds : Int) (L : List SV) (i : Nat) (R : List SV) : St :=
  ⟨[(0, .a (.s (.sl 0 0 n))), (1, .a (.s (.int .i64 kinds))), (4, .a (.s (.ptr 1 0))), (5, .a (.s (.ptr 2 0))), (6, .a (.s (.int .i64 i)))],
   [(0, some ⟨false, 1, L⟩), (1, some ⟨true, 1, [.int .u32 0, .int .i64 0, .nilsl]⟩), (2, some ⟨true, 1, [.int .u32 0, .int .i64 i, .sl 3 0 i]⟩), (3, some ⟨true, 6, R⟩)], [0]⟩
set_option maxHeartbeats 600000 in
set_option maxRecDepth 100000 in
theorem made_fn (ls : List Int) (n : Nat) (hn : ls.length = n) (hn2 : n ≤ 1000000) (kinds : Int) :
    Fn Try.prog 11 [.s (.sl 0 0 n), .s (.int .i64 kinds)] [⟨false, 1, isv .i64 ls⟩]
      (· = ⟨.a (.agg [.int .u32 0, .int .i64 (madeL (kinds % 3) 16 ls).length, .sl 1 0 (madeL (kinds % 3) 16 ls).length]), [], [⟨true, 6, mcs (madeL (kinds % 3) 16 ls)⟩]⟩) := by
  have hsc := isv_scal .i64 ls
  have hr := rnd_fn kinds 3 (by omega) (by omega)
  refine fn_of_vc mixed tys_ok _ _ Try.func11 (by kernel_rfl) rfl Try.ntmps11 (by rw [Try.results11]) rfl ?_; dsimp only [argTm, argHl, Nat.zero_add, Nat.reduceAdd, List.length_nil, List.length_cons]
  (repeat' ((conv => whnf); first | (with_reducible apply sd_draw; · kernel_rfl) | (apply Sd.mk; · first | exact rfl | trivial | omega | (repeat' apply And.intro) <;> first | exact rfl | exact Nat.le_of_ble_eq_true rfl | omega | decide) | ((with_reducible apply Vl.mk (α := Int)); · (first | (with_reducible exact bits_keep _ _ _ _) | ((rewrite [tdiv_pos]); (focus (first | exact wi64 (by omega) (by omega) | exact wu32 (by omega) (by omega) | exact wi32 (by omega) (by omega))); omega) | exact tmod_pos (by omega) | exact wi64 (by omega) (by omega) | exact wu32 (by omega) (by omega) | exact wu32' _ | exact wu8 (by omega) (by omega) | exact wu64 (by omega) (by omega) | exact wi32 (by omega) (by omega) | rfl)) | ((with_reducible first | apply Vl.mk (α := Bool) | apply Vl.mk (α := Nat) | apply Vl.mk (α := ByteArray) | apply Ge.mk (α := Row) | apply Ge.mk (α := SV) | apply Ge.mk (α := AV)); · exact rfl) | (refine And.intro rfl ?_) | ((with_reducible first | apply Vl.mk (α := List SV) | apply Vl.mk (α := Ef) | apply Vl.mk (α := TV) | apply Ge.mk (α := List SV) | apply Sg.mk | apply Sk.mk); · (first | exact setAll_eq rfl | exact sg_all _ rfl | exact sk_all _ rfl rfl | ((first | apply sg_fc | apply sk_fc | (apply fc_eq; (conv => arg 1; whnf); apply fc_some) | apply fc_eq); (repeat' (first | exact fc_ren (wsv_scal _) | exact fc_ren (by assumption) | ((conv => arg 1; whnf); first | exact fc_nil | apply fc_cons | exact fc_int | exact fc_bool | exact fc_n | exact fc_ns | exact fc_ptr | exact fc_sl | exact fc_str | exact fc_unk | exact fc_fn | apply fc_s | apply fc_agg | apply fc_ta | apply fc_tup | exact fc_an | apply fc_ac | exact fc_tu | exact fc_nat | exact fc_bo | exact fc_none | apply fc_some | apply fc_pair | apply fc_row | apply fc_ef))); (all_goals exact rfl)) | ((dsimp only [Res.ef, renT, renA, renS, renN, nwN, upN, renRow, List.map_cons, List.map_nil, List.length_cons, List.length_nil]); first | done | exact rfl) | (dsimp only [setAll, List.set_cons_zero, List.set_cons_succ, List.cons_append, List.nil_append]; exact rfl) | exact rfl)) | ((first | apply Br.mk | apply Gd.mk) <;> (intro hb; first | (exact absurd hb (by decide)) | exact Bool.noConfusion (hb.symm.trans (by assumption) : true = false) | exact Bool.noConfusion (hb.symm.trans (by assumption) : false = true) | (simp only [decide_eq_true_eq, decide_eq_false_iff_not, beq_iff_eq, bne_iff_ne, beq_eq_false_iff_ne, bne_eq_false_iff_eq, Bool.not_eq_true', Bool.not_eq_false', Int.not_lt, Int.not_le, ge_iff_le, gt_iff_lt, ne_eq, Classical.not_not] at hb; first | (exfalso; omega) | skip) | skip)))); (all_goals (try (conv => whnf)))
  refine Lp.inv (fun mm σ => ∃ (i : Nat) (R : List Mi), mm + i = 16 ∧ i ≤ n ∧ R.length = i ∧ R ++ madeL (kinds % 3) mm (ls.drop i) = madeL (kinds % 3) 16 ls ∧ σ = mast n kinds (isv .i64 ls) i (mcs R)) ?_ ?_
  · refine ⟨16, mast n kinds (isv .i64 ls) 0 [], ?_, 0, [], by omega, by omega, rfl, rfl, rfl⟩
    apply wk_of (m := [(0, some 0), (1, some 65536), (2, some 131072), (3, none)])
    · repeat' (first | exact tml_nil | apply tml_cons)
      all_goals first | exact tvm_a (avm_s (svm_same rfl)) | exact tvm_a (avm_s (svm_ptr rfl)) | exact tvm_a (avm_s (svm_sl rfl))
    · show HlS _ _ [] _
      refine hls_row (rowmt_mk rfl rfl rfl rfl (svsm_scal hsc)) ?_
      refine hls_row (rowmt_mk rfl rfl rfl rfl (svsm_scal rfl)) ?_
      refine hls_row (rowmt_mk rfl rfl rfl rfl (.cons (svm_same rfl) (.cons (svm_same rfl) (.cons (svm_slnil rfl) .nil)))) ?_
      refine hls_row (rowmt_nil rfl rfl) ?_
      exact hls_nil
    · rfl
  · rintro mm σ ⟨i, R, hmi, hin, hRl, hinv, rfl⟩
    unfold mast
    by_cases hi : i < n ∧ i < 16
    · obtain ⟨x, hx⟩ : ∃ x, ls[i]? = some x := ⟨ls[i]'(by omega), List.getElem?_eq_getElem (by omega)⟩
      have hd : ls.drop i = x :: ls.drop (i + 1) := by
        have hlt := (List.getElem?_eq_some_iff.1 hx).1
        rw [List.drop_eq_getElem_cons hlt]
        congr 1
        exact (List.getElem?_eq_some_iff.1 hx).2
      have hge : (isv .i64 ls)[0 + ((i : Nat) : Int).toNat * 1]? = some (.int .i64 x) := by
        rw [Nat.zero_add, Nat.mul_one, Int.toNat_natCast, isv_get .i64 ls i (by omega)]
        rw [List.getD_eq_getElem?_getD, hx]; rfl
      have hmc := micro_fn x (kinds % 3)
      have hmok := microV_ok x (kinds % 3)
      have hst : madeL (kinds % 3) mm (ls.drop i) = if endsB (microV x (kinds % 3)).o = true then [microV x (kinds % 3)] else microV x (kinds % 3) :: madeL (kinds % 3) (mm - 1) (ls.drop (i + 1)) := by
        obtain ⟨f, rfl⟩ : ∃ f, mm = f + 1 := ⟨mm - 1, by omega⟩
        rw [hd]; rfl
      generalize microV x (kinds % 3) = M at *
      obtain ⟨o, a, b, c, k, nn⟩ := M
      dsimp only [Mi.C] at hmc
      dsimp only at hst
      have hen := rends_fn o
      have hRs := mcs_scal R
      have hRk := mcs_known R
      have hRl2 := mcs_len R
      have happ : mcs R ++ [.int .i64 o, .int .i64 a, .int .i64 b, .int .i64 c, .int .u32 k, .int .i64 nn] = mcs (R ++ [⟨o, a, b, c, k, nn⟩]) := by rw [mcs_app]; rfl
      have hRs2 := mcs_scal (R ++ [⟨o, a, b, c, k, nn⟩])
      have q2 : IntKind.i64.wrap ((i : Int) + 1) = ((i + 1 : Nat) : Int) := by rw [wi64 (by omega) (by omega)]; omega
      rw [hst] at hinv
      generalize hE : endsB o = E at *
      generalize hR2d : R ++ [⟨o, a, b, c, k, nn⟩] = R2 at *
      have hR2l : R2.length = R.length + 1 := by rw [← hR2d]; simp
      generalize hRR : mcs R = RR at *
      generalize hRR2 : mcs R2 = RR2 at *
      generalize hLL : isv .i64 ls = LL at *
      (repeat' ((conv => whnf); first | ((with_reducible apply Vl.mk (α := Int)); · with_reducible first | exact q2)  |  (apply Sd.mk; · refine ⟨rfl, rfl, ?_, ?_, ?_⟩; (focus (show RR.length = i * 6; omega)); (focus (show (i + 1) * 48 ≤ _; omega)); (focus omega))  |  ((with_reducible apply Vl.mk (α := List SV)); · exact happ)  |  ((with_reducible apply Ge.mk (α := SV)); · exact hge)  |  (refine vcall_pure (f := 21) (hr) rfl ?_)  |  (refine vcall_pure (f := 24) (hmc) rfl ?_)  |  (refine vcall_pure (f := 25) (hen) rfl ?_) | (with_reducible apply sd_draw; · kernel_rfl) | (apply Sd.mk; · first | exact rfl | trivial | omega | (repeat' apply And.intro) <;> first | exact rfl | exact Nat.le_of_ble_eq_true rfl | omega | decide) | ((with_reducible apply Vl.mk (α := Int)); · (first | (with_reducible exact bits_keep _ _ _ _) | ((rewrite [tdiv_pos]); (focus (first | exact wi64 (by omega) (by omega) | exact wu32 (by omega) (by omega) | exact wi32 (by omega) (by omega))); omega) | exact tmod_pos (by omega) | exact wi64 (by omega) (by omega) | exact wu32 (by omega) (by omega) | exact wu32' _ | exact wu8 (by omega) (by omega) | exact wu64 (by omega) (by omega) | exact wi32 (by omega) (by omega) | rfl)) | ((with_reducible first | apply Vl.mk (α := Bool) | apply Vl.mk (α := Nat) | apply Vl.mk (α := ByteArray) | apply Ge.mk (α := Row) | apply Ge.mk (α := SV) | apply Ge.mk (α := AV)); · exact rfl) | (refine And.intro rfl ?_) | ((with_reducible first | apply Vl.mk (α := List SV) | apply Vl.mk (α := Ef) | apply Vl.mk (α := TV) | apply Ge.mk (α := List SV) | apply Sg.mk | apply Sk.mk); · (first | exact setAll_eq rfl | exact sg_all _ rfl | exact sk_all _ rfl rfl | ((first | apply sg_fc | apply sk_fc | (apply fc_eq; (conv => arg 1; whnf); apply fc_some) | apply fc_eq); (repeat' (first | exact fc_ren (wsv_scal _) | exact fc_ren (by assumption) | ((conv => arg 1; whnf); first | exact fc_nil | apply fc_cons | exact fc_int | exact fc_bool | exact fc_n | exact fc_ns | exact fc_ptr | exact fc_sl | exact fc_str | exact fc_unk | exact fc_fn | apply fc_s | apply fc_agg | apply fc_ta | apply fc_tup | exact fc_an | apply fc_ac | exact fc_tu | exact fc_nat | exact fc_bo | exact fc_none | apply fc_some | apply fc_pair | apply fc_row | apply fc_ef))); (all_goals exact rfl)) | ((dsimp only [Res.ef, renT, renA, renS, renN, nwN, upN, renRow, List.map_cons, List.map_nil, List.length_cons, List.length_nil]); first | done | exact rfl) | (dsimp only [setAll, List.set_cons_zero, List.set_cons_succ, List.cons_append, List.nil_append]; exact rfl) | exact rfl)) | ((first | apply Br.mk | apply Gd.mk) <;> (intro hb; first | (exact absurd hb (by decide)) | exact Bool.noConfusion (hb.symm.trans (by assumption) : true = false) | exact Bool.noConfusion (hb.symm.trans (by assumption) : false = true) | (simp only [decide_eq_true_eq, decide_eq_false_iff_not, beq_iff_eq, bne_iff_ne, beq_eq_false_iff_ne, bne_eq_false_iff_eq, Bool.not_eq_true', Bool.not_eq_false', Int.not_lt, Int.not_le, ge_iff_le, gt_iff_lt, ne_eq, Classical.not_not] at hb; first | (exfalso; omega) | skip) | skip)))); (all_goals (try (conv => whnf)))
      all_goals first
        | (have hfin : madeL (kinds % 3) 16 ls = R2 := by rw [← hinv, if_pos (by assumption), hR2d]
           rw [hfin, hR2l, hRl, hRR2]
           (apply Fin.mk (m := [(0, some 0), (1, some _)]); (focus exact rfl); (all_goals ((try (show HlS _ _ [] _)); first | ((repeat' (first | exact SVsM.nil | exact avsm_nil | exact svm_same rfl | exact svm_ptr rfl | exact svm_sl rfl | exact svm_slnil rfl | exact svsm_scal rfl | exact svsm_scal (wsv_scal _) | exact svsm_scal (by assumption) | exact hls_nil | apply SVsM.cons | apply tvm_a | apply tvm_tup | apply avm_agg | apply avm_s | apply avsm_cons | exact trivial | (refine hls_skip rfl ?_) | apply hls_none | apply hls_row | (refine rowmt_mk rfl rfl rfl rfl ?_) | exact rowmt_nil rfl rfl)); done) | exact rfl))))
        | (have hnx : R2 ++ madeL (kinds % 3) (mm - 1) (ls.drop (i + 1)) = madeL (kinds % 3) 16 ls := by rw [← hinv, if_neg (by first | assumption | (intro hq; exact Bool.noConfusion (hq.symm.trans (by assumption) : true = false))), ← hR2d, List.append_assoc]; rfl
           refine ⟨mm - 1, mast n kinds LL (i + 1) RR2, by omega, ?_, i + 1, R2, by omega, by omega, by omega, hnx, by rw [hRR2]; rfl⟩
           apply wk_of (m := [(0, some 0), (1, some 1), (2, some 2), (3, some 196864)])
           · repeat' (first | exact tml_nil | apply tml_cons)
             all_goals first | exact tvm_a (avm_s (svm_same rfl)) | exact tvm_a (avm_s (svm_ptr rfl)) | exact tvm_a (avm_s (svm_sl rfl))
           · show HlS _ _ [] _
             refine hls_row (rowmt_mk rfl rfl rfl rfl (svsm_scal hsc)) ?_
             refine hls_row (rowmt_mk rfl rfl rfl rfl (svsm_scal rfl)) ?_
             refine hls_row (rowmt_mk rfl rfl rfl rfl (.cons (svm_same rfl) (.cons (svm_same rfl) (.cons (svm_sl rfl) .nil)))) ?_
             refine hls_row (rowmt_mk rfl rfl rfl rfl (svsm_scal hRs2)) ?_
             exact hls_nil
           · rfl)
        | trace_state
    · have hfin : madeL (kinds % 3) 16 ls = R := by
        rw [← hinv]
        have : madeL (kinds % 3) mm (ls.drop i) = [] := by
          by_cases h16 : i < 16
          · rw [List.drop_eq_nil_of_le (by omega)]
            cases mm <;> rfl
          · have : mm = 0 := by omega
            subst this; rfl
        rw [this, List.append_nil]
      have hRs := mcs_scal R
      rw [hfin, hRl]
      generalize mcs R = RR at *
      generalize isv .i64 ls = LL at *
      (repeat' ((conv => whnf); first | (with_reducible apply sd_draw; · kernel_rfl) | (apply Sd.mk; · first | exact rfl | trivial | omega | (repeat' apply And.intro) <;> first | exact rfl | exact Nat.le_of_ble_eq_true rfl | omega | decide) | ((with_reducible apply Vl.mk (α := Int)); · (first | (with_reducible exact bits_keep _ _ _ _) | ((rewrite [tdiv_pos]); (focus (first | exact wi64 (by omega) (by omega) | exact wu32 (by omega) (by omega) | exact wi32 (by omega) (by omega))); omega) | exact tmod_pos (by omega) | exact wi64 (by omega) (by omega) | exact wu32 (by omega) (by omega) | exact wu32' _ | exact wu8 (by omega) (by omega) | exact wu64 (by omega) (by omega) | exact wi32 (by omega) (by omega) | rfl)) | ((with_reducible first | apply Vl.mk (α := Bool) | apply Vl.mk (α := Nat) | apply Vl.mk (α := ByteArray) | apply Ge.mk (α := Row) | apply Ge.mk (α := SV) | apply Ge.mk (α := AV)); · exact rfl) | (refine And.intro rfl ?_) | ((with_reducible first | apply Vl.mk (α := List SV) | apply Vl.mk (α := Ef) | apply Vl.mk (α := TV) | apply Ge.mk (α := List SV) | apply Sg.mk | apply Sk.mk); · (first | exact setAll_eq rfl | exact sg_all _ rfl | exact sk_all _ rfl rfl | ((first | apply sg_fc | apply sk_fc | (apply fc_eq; (conv => arg 1; whnf); apply fc_some) | apply fc_eq); (repeat' (first | exact fc_ren (wsv_scal _) | exact fc_ren (by assumption) | ((conv => arg 1; whnf); first | exact fc_nil | apply fc_cons | exact fc_int | exact fc_bool | exact fc_n | exact fc_ns | exact fc_ptr | exact fc_sl | exact fc_str | exact fc_unk | exact fc_fn | apply fc_s | apply fc_agg | apply fc_ta | apply fc_tup | exact fc_an | apply fc_ac | exact fc_tu | exact fc_nat | exact fc_bo | exact fc_none | apply fc_some | apply fc_pair | apply fc_row | apply fc_ef))); (all_goals exact rfl)) | ((dsimp only [Res.ef, renT, renA, renS, renN, nwN, upN, renRow, List.map_cons, List.map_nil, List.length_cons, List.length_nil]); first | done | exact rfl) | (dsimp only [setAll, List.set_cons_zero, List.set_cons_succ, List.cons_append, List.nil_append]; exact rfl) | exact rfl)) | ((first | apply Br.mk | apply Gd.mk) <;> (intro hb; first | (exact absurd hb (by decide)) | exact Bool.noConfusion (hb.symm.trans (by assumption) : true = false) | exact Bool.noConfusion (hb.symm.trans (by assumption) : false = true) | (simp only [decide_eq_true_eq, decide_eq_false_iff_not, beq_iff_eq, bne_iff_ne, beq_eq_false_iff_ne, bne_eq_false_iff_eq, Bool.not_eq_true', Bool.not_eq_false', Int.not_lt, Int.not_le, ge_iff_le, gt_iff_lt, ne_eq, Classical.not_not] at hb; first | (exfalso; omega) | skip) | skip)))); (all_goals (try (conv => whnf)))
      all_goals first | (apply Fin.mk (m := [(0, some 0), (1, some _)]); (focus exact rfl); (all_goals ((try (show HlS _ _ [] _)); first | ((repeat' (first | exact SVsM.nil | exact avsm_nil | exact svm_same rfl | exact svm_ptr rfl | exact svm_sl rfl | exact svm_slnil rfl | exact svsm_scal rfl | exact svsm_scal (wsv_scal _) | exact svsm_scal (by assumption) | exact hls_nil | apply SVsM.cons | apply tvm_a | apply tvm_tup | apply avm_agg | apply avm_s | apply avsm_cons | exact trivial | (refine hls_skip rfl ?_) | apply hls_none | apply hls_row | (refine rowmt_mk rfl rfl rfl rfl ?_) | exact rowmt_nil rfl rfl)); done) | exact rfl))) | trace_state
end Go.Proofs.Ytpkbfpjkpiimiaa
