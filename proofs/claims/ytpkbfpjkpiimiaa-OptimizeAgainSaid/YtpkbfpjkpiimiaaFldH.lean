/- merge (UNDER WAY). -/
import Derived.Test.YtpkbfpjkpiimiaaFldG
namespace Go.Proofs.Ytpkbfpjkpiimiaa
open Go Go.RowKit
set_option linter.unusedSimpArgs false
set_option linter.unusedVariables false

def mrg : List Mi → Int → List Mi
  | [], _ => []
  | [m], p => [{ m with n := m.n + p }]
  | m :: m' :: l, p => if useV m m' = true then mrg (m' :: l) (m.n + p) else { m with n := m.n + p } :: mrg (m' :: l) 0
def mst (N : Nat) (L : List SV) (i r : Nat) (p : Int) (R : List SV) : St :=
  ⟨[(0, .a (.s (.sl 0 0 N))), (3, .a (.s (.sl 1 0 r))), (4, .a (.s (.int .i64 p))), (7, .a (.s (.sl 0 0 N))), (8, .a (.s (.int .i64 N))), (9, .a (.s (.int .i64 i)))], [(0, some ⟨false, 6, L⟩), (1, some ⟨true, 6, R⟩)], [0]⟩
set_option maxHeartbeats 600000 in
set_option maxRecDepth 100000 in
theorem mergeG_fn (l : List Mi) (N : Nat) (hN : l.length = N) (hN2 : N ≤ 1000000) (hn : ∀ m ∈ l, 0 ≤ m.n ∧ m.n ≤ 1000000) (hne : 0 < (mrg l 0).length) :
    Fn Try.prog 29 [.s (.sl 0 0 N)] [⟨false, 6, mcs l⟩] (· = ⟨.a (.s (.sl 1 0 (mrg l 0).length)), [], [⟨true, 6, mcs (mrg l 0)⟩]⟩) := by
  have hsc := mcs_scal l
  have hLl := mcs_len l
  refine fn_of_vc mixed tys_ok _ _ Try.func29 (by kernel_rfl) rfl Try.ntmps29 (by rw [Try.results29]) rfl ?_; dsimp only [argTm, argHl, Nat.zero_add, Nat.reduceAdd, List.length_nil, List.length_cons]
  (repeat' ((conv => whnf); first | (with_reducible apply sd_draw; · kernel_rfl) | (apply Sd.mk; · first | exact rfl | trivial | omega | (repeat' apply And.intro) <;> first | exact rfl | exact Nat.le_of_ble_eq_true rfl | omega | decide) | ((with_reducible apply Vl.mk (α := Int)); · (first | (with_reducible exact bits_keep _ _ _ _) | ((rewrite [tdiv_pos]); (focus (first | exact wi64 (by omega) (by omega) | exact wu32 (by omega) (by omega) | exact wi32 (by omega) (by omega))); omega) | exact tmod_pos (by omega) | exact wi64 (by omega) (by omega) | exact wu32 (by omega) (by omega) | exact wu32' _ | exact wu8 (by omega) (by omega) | exact wu64 (by omega) (by omega) | exact wi32 (by omega) (by omega) | rfl)) | ((with_reducible first | apply Vl.mk (α := Bool) | apply Vl.mk (α := Nat) | apply Vl.mk (α := ByteArray) | apply Ge.mk (α := Row) | apply Ge.mk (α := SV) | apply Ge.mk (α := AV)); · exact rfl) | (refine And.intro rfl ?_) | ((with_reducible first | apply Vl.mk (α := List SV) | apply Vl.mk (α := Ef) | apply Vl.mk (α := TV) | apply Ge.mk (α := List SV) | apply Sg.mk | apply Sk.mk); · (first | exact setAll_eq rfl | exact sg_all _ rfl | exact sk_all _ rfl rfl | ((first | apply sg_fc | apply sk_fc | (apply fc_eq; (conv => arg 1; whnf); apply fc_some) | apply fc_eq); (repeat' (first | exact fc_ren (wsv_scal _) | exact fc_ren (by assumption) | ((conv => arg 1; whnf); first | exact fc_nil | apply fc_cons | exact fc_int | exact fc_bool | exact fc_n | exact fc_ns | exact fc_ptr | exact fc_sl | exact fc_str | exact fc_unk | exact fc_fn | apply fc_s | apply fc_agg | apply fc_ta | apply fc_tup | exact fc_an | apply fc_ac | exact fc_tu | exact fc_nat | exact fc_bo | exact fc_none | apply fc_some | apply fc_pair | apply fc_row | apply fc_ef))); (all_goals exact rfl)) | ((dsimp only [Res.ef, renT, renA, renS, renN, nwN, upN, renRow, List.map_cons, List.map_nil, List.length_cons, List.length_nil]); first | done | exact rfl) | (dsimp only [setAll, List.set_cons_zero, List.set_cons_succ, List.cons_append, List.nil_append]; exact rfl) | exact rfl)) | ((first | apply Br.mk | apply Gd.mk) <;> (intro hb; first | (exact absurd hb (by decide)) | exact Bool.noConfusion (hb.symm.trans (by assumption) : true = false) | exact Bool.noConfusion (hb.symm.trans (by assumption) : false = true) | (simp only [decide_eq_true_eq, decide_eq_false_iff_not, beq_iff_eq, bne_iff_ne, beq_eq_false_iff_ne, bne_eq_false_iff_eq, Bool.not_eq_true', Bool.not_eq_false', Int.not_lt, Int.not_le, ge_iff_le, gt_iff_lt, ne_eq, Classical.not_not] at hb; first | (exfalso; omega) | skip) | skip)))); (all_goals (try (conv => whnf)))
  refine Lp.inv (fun mm σ => ∃ (i : Nat) (p : Int) (R : List Mi), mm + i = N ∧ 0 ≤ p ∧ p ≤ 1000000 * i ∧ R.length ≤ i ∧ R ++ mrg (l.drop i) p = mrg l 0 ∧ σ = mst N (mcs l) i R.length p (mcs R)) ?_ ?_
  · refine ⟨N, mst N (mcs l) 0 0 0 [], ?_, 0, 0, [], by omega, by omega, by omega, by simp, by simp, rfl⟩
    apply wk_of (m := [(0, some 0), (1, none)])
    · repeat' (first | exact tml_nil | apply tml_cons)
      all_goals first | exact tvm_a (avm_s (svm_same rfl)) | exact tvm_a (avm_s (svm_slnil rfl)) | exact tvm_a (avm_s (svm_sl rfl))
    · show HlS _ _ [] _
      refine hls_row (rowmt_mk rfl rfl rfl rfl (svsm_scal hsc)) ?_
      refine hls_row (rowmt_nil rfl rfl) ?_
      exact hls_nil
    · rfl
  · rintro mm σ ⟨i, p, R, hmi, hp0, hp1, hRl, hR, rfl⟩
    unfold mst
    by_cases hi : i < N
    · obtain ⟨⟨o, a, b, c, k, n⟩, hm⟩ : ∃ m, l[i]? = some m := ⟨l[i]'(by omega), List.getElem?_eq_getElem (by omega)⟩
      have hmn := hn _ (List.mem_of_getElem? hm)
      have seg := mcs_seg l i _ hm
      have q1 : IntKind.i64.wrap (n + p) = n + p := wi64 (by dsimp only at hmn; omega) (by dsimp only at hmn; omega)
      have q2 : IntKind.i64.wrap ((i : Int) + 1) = ((i + 1 : Nat) : Int) := by rw [wi64 (by omega) (by omega)]; omega
      have x1 : 0 + ((i : Nat) : Int).toNat * ty39.size = i * 6 := by show 0 + ((i : Nat) : Int).toNat * 6 = _; omega
      have hd : l.drop i = ⟨o, a, b, c, k, n⟩ :: l.drop (i + 1) := by
        have hlt := (List.getElem?_eq_some_iff.1 hm).1
        rw [List.drop_eq_getElem_cons hlt]
        congr 1
        exact (List.getElem?_eq_some_iff.1 hm).2
      dsimp only [Mi.C] at seg
      dsimp only at hmn
      have hRs := mcs_scal R
      have hRk := mcs_known R
      have hRl := mcs_len R
      have happ : mcs R ++ [.int .i64 o, .int .i64 a, .int .i64 b, .int .i64 c, .int .u32 k, .int .i64 (n + p)] = mcs (R ++ [⟨o, a, b, c, k, n + p⟩]) := by rw [mcs_app]; rfl
      have hRs2 := mcs_scal (R ++ [⟨o, a, b, c, k, n + p⟩])
      by_cases hi2 : i + 1 < N
      · obtain ⟨⟨o', a', b', c', k', n'⟩, hm'⟩ : ∃ m, l[i + 1]? = some m := ⟨l[i + 1]'(by omega), List.getElem?_eq_getElem (by omega)⟩
        have seg2 := mcs_seg l (i + 1) _ hm'
        dsimp only [Mi.C] at seg2
        have x2 : 0 + ((i + 1 : Nat) : Int).toNat * ty39.size = (i + 1) * 6 := by show 0 + ((i + 1 : Nat) : Int).toNat * 6 = _; omega
        have hd2 : l.drop (i + 1) = ⟨o', a', b', c', k', n'⟩ :: l.drop (i + 2) := by
          have hlt := (List.getElem?_eq_some_iff.1 hm').1
          rw [List.drop_eq_getElem_cons hlt]
          congr 1
          exact (List.getElem?_eq_some_iff.1 hm').2
        have hus := uselessG_fn o (n + p) o' n' a b c k a' b' c' k'
        dsimp only [Mi.C] at hus
        have hue : useV ⟨o, a, b, c, k, n + p⟩ ⟨o', a', b', c', k', n'⟩ = useV ⟨o, a, b, c, k, n⟩ ⟨o', a', b', c', k', n'⟩ := rfl
        rw [hue] at hus
        cases hu : useV ⟨o, a, b, c, k, n⟩ ⟨o', a', b', c', k', n'⟩ with
        | true =>
          rw [hu] at hus
          have hR2 : R ++ mrg (l.drop (i + 1)) (n + p) = mrg l 0 := by rw [← hR, hd, hd2, mrg, if_pos hu]
          clear hRk happ hRs2
          generalize hRR : mcs R = RR at *
          generalize mcs l = LL at *
          (repeat' ((conv => whnf); first | ((with_reducible apply Vl.mk (α := Int)); · with_reducible first | exact q1 | exact q2)  |  ((with_reducible apply Vl.mk (α := Nat)); · with_reducible first | exact x1 | exact x2)  |  (apply Sg.mk; · first | exact seg | exact seg2)  |  (refine vcall_pure (f := 50) (hus) rfl ?_) | (with_reducible apply sd_draw; · kernel_rfl) | (apply Sd.mk; · first | exact rfl | trivial | omega | (repeat' apply And.intro) <;> first | exact rfl | exact Nat.le_of_ble_eq_true rfl | omega | decide) | ((with_reducible apply Vl.mk (α := Int)); · (first | (with_reducible exact bits_keep _ _ _ _) | ((rewrite [tdiv_pos]); (focus (first | exact wi64 (by omega) (by omega) | exact wu32 (by omega) (by omega) | exact wi32 (by omega) (by omega))); omega) | exact tmod_pos (by omega) | exact wi64 (by omega) (by omega) | exact wu32 (by omega) (by omega) | exact wu32' _ | exact wu8 (by omega) (by omega) | exact wu64 (by omega) (by omega) | exact wi32 (by omega) (by omega) | rfl)) | ((with_reducible first | apply Vl.mk (α := Bool) | apply Vl.mk (α := Nat) | apply Vl.mk (α := ByteArray) | apply Ge.mk (α := Row) | apply Ge.mk (α := SV) | apply Ge.mk (α := AV)); · exact rfl) | (refine And.intro rfl ?_) | ((with_reducible first | apply Vl.mk (α := List SV) | apply Vl.mk (α := Ef) | apply Vl.mk (α := TV) | apply Ge.mk (α := List SV) | apply Sg.mk | apply Sk.mk); · (first | exact setAll_eq rfl | exact sg_all _ rfl | exact sk_all _ rfl rfl | ((first | apply sg_fc | apply sk_fc | (apply fc_eq; (conv => arg 1; whnf); apply fc_some) | apply fc_eq); (repeat' (first | exact fc_ren (wsv_scal _) | exact fc_ren (by assumption) | ((conv => arg 1; whnf); first | exact fc_nil | apply fc_cons | exact fc_int | exact fc_bool | exact fc_n | exact fc_ns | exact fc_ptr | exact fc_sl | exact fc_str | exact fc_unk | exact fc_fn | apply fc_s | apply fc_agg | apply fc_ta | apply fc_tup | exact fc_an | apply fc_ac | exact fc_tu | exact fc_nat | exact fc_bo | exact fc_none | apply fc_some | apply fc_pair | apply fc_row | apply fc_ef))); (all_goals exact rfl)) | ((dsimp only [Res.ef, renT, renA, renS, renN, nwN, upN, renRow, List.map_cons, List.map_nil, List.length_cons, List.length_nil]); first | done | exact rfl) | (dsimp only [setAll, List.set_cons_zero, List.set_cons_succ, List.cons_append, List.nil_append]; exact rfl) | exact rfl)) | ((first | apply Br.mk | apply Gd.mk) <;> (intro hb; first | (exact absurd hb (by decide)) | exact Bool.noConfusion (hb.symm.trans (by assumption) : true = false) | exact Bool.noConfusion (hb.symm.trans (by assumption) : false = true) | (simp only [decide_eq_true_eq, decide_eq_false_iff_not, beq_iff_eq, bne_iff_ne, beq_eq_false_iff_ne, bne_eq_false_iff_eq, Bool.not_eq_true', Bool.not_eq_false', Int.not_lt, Int.not_le, ge_iff_le, gt_iff_lt, ne_eq, Classical.not_not] at hb; first | (exfalso; omega) | skip) | skip)))); (all_goals (try (conv => whnf)))
          refine ⟨mm - 1, mst N LL (i + 1) R.length (n + p) RR, by omega, ?_, i + 1, n + p, R, by omega, by omega, by omega, by omega, hR2, by rw [hRR]; rfl⟩
          apply wk_of (m := [(0, some 0), (1, some 1)])
          · repeat' (first | exact tml_nil | apply tml_cons)
            all_goals first | exact tvm_a (avm_s (svm_same rfl)) | exact tvm_a (avm_s (svm_sl rfl))
          · show HlS _ _ [] _
            refine hls_row (rowmt_mk rfl rfl rfl rfl (svsm_scal hsc)) ?_
            refine hls_row (rowmt_mk rfl rfl rfl rfl (svsm_scal hRs)) ?_
            exact hls_nil
          · rfl
        | false =>
          rw [hu] at hus
          have hR2 : (R ++ [⟨o, a, b, c, k, n + p⟩]) ++ mrg (l.drop (i + 1)) 0 = mrg l 0 := by
            rw [← hR, hd, hd2, mrg, if_neg (by rw [hu]; simp), List.append_assoc]; rfl
          generalize hR2d : R ++ [⟨o, a, b, c, k, n + p⟩] = R2 at *
          have hR2l : R2.length = R.length + 1 := by rw [← hR2d]; simp
          generalize hRR : mcs R = RR at *
          generalize hRR2 : mcs R2 = RR2 at *
          generalize mcs l = LL at *
          (repeat' ((conv => whnf); first | ((with_reducible apply Vl.mk (α := Int)); · with_reducible first | exact q1 | exact q2)  |  ((with_reducible apply Vl.mk (α := Nat)); · with_reducible first | exact x1 | exact x2)  |  (apply Sd.mk; · refine ⟨rfl, rfl, ?_, ?_, ?_⟩; (focus (show RR.length = R.length * 6; omega)); (focus (show (R.length + 1) * 48 ≤ _; omega)); (focus omega))  |  ((with_reducible apply Vl.mk (α := List SV)); · exact happ)  |  (apply Sg.mk; · first | exact seg | exact seg2)  |  (refine vcall_pure (f := 50) (hus) rfl ?_) | (with_reducible apply sd_draw; · kernel_rfl) | (apply Sd.mk; · first | exact rfl | trivial | omega | (repeat' apply And.intro) <;> first | exact rfl | exact Nat.le_of_ble_eq_true rfl | omega | decide) | ((with_reducible apply Vl.mk (α := Int)); · (first | (with_reducible exact bits_keep _ _ _ _) | ((rewrite [tdiv_pos]); (focus (first | exact wi64 (by omega) (by omega) | exact wu32 (by omega) (by omega) | exact wi32 (by omega) (by omega))); omega) | exact tmod_pos (by omega) | exact wi64 (by omega) (by omega) | exact wu32 (by omega) (by omega) | exact wu32' _ | exact wu8 (by omega) (by omega) | exact wu64 (by omega) (by omega) | exact wi32 (by omega) (by omega) | rfl)) | ((with_reducible first | apply Vl.mk (α := Bool) | apply Vl.mk (α := Nat) | apply Vl.mk (α := ByteArray) | apply Ge.mk (α := Row) | apply Ge.mk (α := SV) | apply Ge.mk (α := AV)); · exact rfl) | (refine And.intro rfl ?_) | ((with_reducible first | apply Vl.mk (α := List SV) | apply Vl.mk (α := Ef) | apply Vl.mk (α := TV) | apply Ge.mk (α := List SV) | apply Sg.mk | apply Sk.mk); · (first | exact setAll_eq rfl | exact sg_all _ rfl | exact sk_all _ rfl rfl | ((first | apply sg_fc | apply sk_fc | (apply fc_eq; (conv => arg 1; whnf); apply fc_some) | apply fc_eq); (repeat' (first | exact fc_ren (wsv_scal _) | exact fc_ren (by assumption) | ((conv => arg 1; whnf); first | exact fc_nil | apply fc_cons | exact fc_int | exact fc_bool | exact fc_n | exact fc_ns | exact fc_ptr | exact fc_sl | exact fc_str | exact fc_unk | exact fc_fn | apply fc_s | apply fc_agg | apply fc_ta | apply fc_tup | exact fc_an | apply fc_ac | exact fc_tu | exact fc_nat | exact fc_bo | exact fc_none | apply fc_some | apply fc_pair | apply fc_row | apply fc_ef))); (all_goals exact rfl)) | ((dsimp only [Res.ef, renT, renA, renS, renN, nwN, upN, renRow, List.map_cons, List.map_nil, List.length_cons, List.length_nil]); first | done | exact rfl) | (dsimp only [setAll, List.set_cons_zero, List.set_cons_succ, List.cons_append, List.nil_append]; exact rfl) | exact rfl)) | ((first | apply Br.mk | apply Gd.mk) <;> (intro hb; first | (exact absurd hb (by decide)) | exact Bool.noConfusion (hb.symm.trans (by assumption) : true = false) | exact Bool.noConfusion (hb.symm.trans (by assumption) : false = true) | (simp only [decide_eq_true_eq, decide_eq_false_iff_not, beq_iff_eq, bne_iff_ne, beq_eq_false_iff_ne, bne_eq_false_iff_eq, Bool.not_eq_true', Bool.not_eq_false', Int.not_lt, Int.not_le, ge_iff_le, gt_iff_lt, ne_eq, Classical.not_not] at hb; first | (exfalso; omega) | skip) | skip)))); (all_goals (try (conv => whnf)))
          refine ⟨mm - 1, mst N LL (i + 1) (R.length + 1) 0 RR2, by omega, ?_, i + 1, 0, R2, by omega, by omega, by omega, by omega, hR2, by rw [hRR2, hR2l]; rfl⟩
          apply wk_of (m := [(0, some 0), (1, some 393408)])
          · repeat' (first | exact tml_nil | apply tml_cons)
            all_goals first | exact tvm_a (avm_s (svm_same rfl)) | exact tvm_a (avm_s (svm_sl rfl))
          · show HlS _ _ [] _
            refine hls_row (rowmt_mk rfl rfl rfl rfl (svsm_scal hsc)) ?_
            refine hls_row (rowmt_mk rfl rfl rfl rfl (svsm_scal hRs2)) ?_
            exact hls_nil
          · rfl
      · have hd3 : l.drop (i + 1) = [] := List.drop_eq_nil_of_le (by omega)
        have hR2 : (R ++ [⟨o, a, b, c, k, n + p⟩]) ++ mrg (l.drop (i + 1)) 0 = mrg l 0 := by
          rw [← hR, hd, hd3]
          show (R ++ _) ++ [] = R ++ _
          rw [List.append_nil]
          rfl
        generalize hR2d : R ++ [⟨o, a, b, c, k, n + p⟩] = R2 at *
        have hR2l : R2.length = R.length + 1 := by rw [← hR2d]; simp
        generalize hRR : mcs R = RR at *
        generalize hRR2 : mcs R2 = RR2 at *
        generalize mcs l = LL at *
        (repeat' ((conv => whnf); first | ((with_reducible apply Vl.mk (α := Int)); · with_reducible first | exact q1 | exact q2)  |  ((with_reducible apply Vl.mk (α := Nat)); · with_reducible exact x1)  |  (apply Sd.mk; · refine ⟨rfl, rfl, ?_, ?_, ?_⟩; (focus (show RR.length = R.length * 6; omega)); (focus (show (R.length + 1) * 48 ≤ _; omega)); (focus omega))  |  ((with_reducible apply Vl.mk (α := List SV)); · exact happ)  |  (apply Sg.mk; · exact seg) | (with_reducible apply sd_draw; · kernel_rfl) | (apply Sd.mk; · first | exact rfl | trivial | omega | (repeat' apply And.intro) <;> first | exact rfl | exact Nat.le_of_ble_eq_true rfl | omega | decide) | ((with_reducible apply Vl.mk (α := Int)); · (first | (with_reducible exact bits_keep _ _ _ _) | ((rewrite [tdiv_pos]); (focus (first | exact wi64 (by omega) (by omega) | exact wu32 (by omega) (by omega) | exact wi32 (by omega) (by omega))); omega) | exact tmod_pos (by omega) | exact wi64 (by omega) (by omega) | exact wu32 (by omega) (by omega) | exact wu32' _ | exact wu8 (by omega) (by omega) | exact wu64 (by omega) (by omega) | exact wi32 (by omega) (by omega) | rfl)) | ((with_reducible first | apply Vl.mk (α := Bool) | apply Vl.mk (α := Nat) | apply Vl.mk (α := ByteArray) | apply Ge.mk (α := Row) | apply Ge.mk (α := SV) | apply Ge.mk (α := AV)); · exact rfl) | (refine And.intro rfl ?_) | ((with_reducible first | apply Vl.mk (α := List SV) | apply Vl.mk (α := Ef) | apply Vl.mk (α := TV) | apply Ge.mk (α := List SV) | apply Sg.mk | apply Sk.mk); · (first | exact setAll_eq rfl | exact sg_all _ rfl | exact sk_all _ rfl rfl | ((first | apply sg_fc | apply sk_fc | (apply fc_eq; (conv => arg 1; whnf); apply fc_some) | apply fc_eq); (repeat' (first | exact fc_ren (wsv_scal _) | exact fc_ren (by assumption) | ((conv => arg 1; whnf); first | exact fc_nil | apply fc_cons | exact fc_int | exact fc_bool | exact fc_n | exact fc_ns | exact fc_ptr | exact fc_sl | exact fc_str | exact fc_unk | exact fc_fn | apply fc_s | apply fc_agg | apply fc_ta | apply fc_tup | exact fc_an | apply fc_ac | exact fc_tu | exact fc_nat | exact fc_bo | exact fc_none | apply fc_some | apply fc_pair | apply fc_row | apply fc_ef))); (all_goals exact rfl)) | ((dsimp only [Res.ef, renT, renA, renS, renN, nwN, upN, renRow, List.map_cons, List.map_nil, List.length_cons, List.length_nil]); first | done | exact rfl) | (dsimp only [setAll, List.set_cons_zero, List.set_cons_succ, List.cons_append, List.nil_append]; exact rfl) | exact rfl)) | ((first | apply Br.mk | apply Gd.mk) <;> (intro hb; first | (exact absurd hb (by decide)) | exact Bool.noConfusion (hb.symm.trans (by assumption) : true = false) | exact Bool.noConfusion (hb.symm.trans (by assumption) : false = true) | (simp only [decide_eq_true_eq, decide_eq_false_iff_not, beq_iff_eq, bne_iff_ne, beq_eq_false_iff_ne, bne_eq_false_iff_eq, Bool.not_eq_true', Bool.not_eq_false', Int.not_lt, Int.not_le, ge_iff_le, gt_iff_lt, ne_eq, Classical.not_not] at hb; first | (exfalso; omega) | skip) | skip)))); (all_goals (try (conv => whnf)))
        all_goals first
          | (refine ⟨mm - 1, mst N LL (i + 1) (R.length + 1) 0 RR2, by omega, ?_, i + 1, 0, R2, by omega, by omega, by omega, by omega, hR2, by rw [hRR2, hR2l]; rfl⟩
             apply wk_of (m := [(0, some 0), (1, some 393408)])
             · repeat' (first | exact tml_nil | apply tml_cons)
               all_goals first | exact tvm_a (avm_s (svm_same rfl)) | exact tvm_a (avm_s (svm_sl rfl))
             · show HlS _ _ [] _
               refine hls_row (rowmt_mk rfl rfl rfl rfl (svsm_scal hsc)) ?_
               refine hls_row (rowmt_mk rfl rfl rfl rfl (svsm_scal hRs2)) ?_
               exact hls_nil
             · rfl)
          | trace_state
    · have hiN : i = N := by omega
      subst hiN
      have hRe : R = mrg l 0 := by rw [← hR, List.drop_eq_nil_of_le (by omega)]; show R = R ++ []; rw [List.append_nil]
      have hRs := mcs_scal R
      rw [← hRe]
      generalize mcs R = RR at *
      generalize mcs l = LL at *
      (repeat' ((conv => whnf); first | (with_reducible apply sd_draw; · kernel_rfl) | (apply Sd.mk; · first | exact rfl | trivial | omega | (repeat' apply And.intro) <;> first | exact rfl | exact Nat.le_of_ble_eq_true rfl | omega | decide) | ((with_reducible apply Vl.mk (α := Int)); · (first | (with_reducible exact bits_keep _ _ _ _) | ((rewrite [tdiv_pos]); (focus (first | exact wi64 (by omega) (by omega) | exact wu32 (by omega) (by omega) | exact wi32 (by omega) (by omega))); omega) | exact tmod_pos (by omega) | exact wi64 (by omega) (by omega) | exact wu32 (by omega) (by omega) | exact wu32' _ | exact wu8 (by omega) (by omega) | exact wu64 (by omega) (by omega) | exact wi32 (by omega) (by omega) | rfl)) | ((with_reducible first | apply Vl.mk (α := Bool) | apply Vl.mk (α := Nat) | apply Vl.mk (α := ByteArray) | apply Ge.mk (α := Row) | apply Ge.mk (α := SV) | apply Ge.mk (α := AV)); · exact rfl) | (refine And.intro rfl ?_) | ((with_reducible first | apply Vl.mk (α := List SV) | apply Vl.mk (α := Ef) | apply Vl.mk (α := TV) | apply Ge.mk (α := List SV) | apply Sg.mk | apply Sk.mk); · (first | exact setAll_eq rfl | exact sg_all _ rfl | exact sk_all _ rfl rfl | ((first | apply sg_fc | apply sk_fc | (apply fc_eq; (conv => arg 1; whnf); apply fc_some) | apply fc_eq); (repeat' (first | exact fc_ren (wsv_scal _) | exact fc_ren (by assumption) | ((conv => arg 1; whnf); first | exact fc_nil | apply fc_cons | exact fc_int | exact fc_bool | exact fc_n | exact fc_ns | exact fc_ptr | exact fc_sl | exact fc_str | exact fc_unk | exact fc_fn | apply fc_s | apply fc_agg | apply fc_ta | apply fc_tup | exact fc_an | apply fc_ac | exact fc_tu | exact fc_nat | exact fc_bo | exact fc_none | apply fc_some | apply fc_pair | apply fc_row | apply fc_ef))); (all_goals exact rfl)) | ((dsimp only [Res.ef, renT, renA, renS, renN, nwN, upN, renRow, List.map_cons, List.map_nil, List.length_cons, List.length_nil]); first | done | exact rfl) | (dsimp only [setAll, List.set_cons_zero, List.set_cons_succ, List.cons_append, List.nil_append]; exact rfl) | exact rfl)) | ((first | apply Br.mk | apply Gd.mk) <;> (intro hb; first | (exact absurd hb (by decide)) | exact Bool.noConfusion (hb.symm.trans (by assumption) : true = false) | exact Bool.noConfusion (hb.symm.trans (by assumption) : false = true) | (simp only [decide_eq_true_eq, decide_eq_false_iff_not, beq_iff_eq, bne_iff_ne, beq_eq_false_iff_ne, bne_eq_false_iff_eq, Bool.not_eq_true', Bool.not_eq_false', Int.not_lt, Int.not_le, ge_iff_le, gt_iff_lt, ne_eq, Classical.not_not] at hb; first | (exfalso; omega) | skip) | skip)))); (all_goals (try (conv => whnf)))
      all_goals first | (apply Fin.mk (m := [(0, some 0), (1, some 1)]); (focus exact rfl); (all_goals ((try (show HlS _ _ [] _)); first | ((repeat' (first | exact SVsM.nil | exact avsm_nil | exact svm_same rfl | exact svm_ptr rfl | exact svm_sl rfl | exact svm_slnil rfl | exact svsm_scal rfl | exact svsm_scal (wsv_scal _) | exact svsm_scal (by assumption) | exact hls_nil | apply SVsM.cons | apply tvm_a | apply tvm_tup | apply avm_agg | apply avm_s | apply avsm_cons | exact trivial | (refine hls_skip rfl ?_) | apply hls_none | apply hls_row | (refine rowmt_mk rfl rfl rfl rfl ?_) | exact rowmt_nil rfl rfl)); done) | exact rfl))) | trace_state
end Go.Proofs.Ytpkbfpjkpiimiaa
