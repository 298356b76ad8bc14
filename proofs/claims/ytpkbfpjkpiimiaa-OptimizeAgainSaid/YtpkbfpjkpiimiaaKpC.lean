/- Cost; May and Fold of blocks that may stand, by the plain laws. -/
import Derived.Test.YtpkbfpjkpiimiaaKpB
namespace Go.Proofs.Ytpkbfpjkpiimiaa
open Go Go.RowKit
set_option linter.unusedSimpArgs false
set_option linter.unusedVariables false

set_option maxRecDepth 100000 in
theorem cost_fn (A : Nat) (L : Int) (M : List SV) (hs : allScal M = true) (N : Nat) : Fn Try.prog 15 [.agg [.int .u32 A, .int .i64 L, .sl 0 0 N]] [⟨false, 6, M⟩] (· = ⟨.a (.s (.int .i64 N)), [], []⟩) := by
  refine fn_of_vc mixed tys_ok _ _ Try.func15 (by kernel_rfl) rfl Try.ntmps15 (by rw [Try.results15]) rfl ?_; dsimp only [argTm, argHl, Nat.zero_add, Nat.reduceAdd, List.length_nil, List.length_cons]
  (repeat' ((conv => whnf); first | (with_reducible apply sd_draw; · kernel_rfl) | (apply Sd.mk; · first | exact rfl | trivial | omega | (repeat' apply And.intro) <;> first | exact rfl | exact Nat.le_of_ble_eq_true rfl | omega | decide) | ((with_reducible apply Vl.mk (α := Int)); · (first | (with_reducible exact bits_keep _ _ _ _) | ((rewrite [tdiv_pos]); (focus (first | exact wi64 (by omega) (by omega) | exact wu32 (by omega) (by omega) | exact wi32 (by omega) (by omega))); omega) | exact tmod_pos (by omega) | exact wi64 (by omega) (by omega) | exact wu32 (by omega) (by omega) | exact wu32' _ | exact wu8 (by omega) (by omega) | exact wu64 (by omega) (by omega) | exact wi32 (by omega) (by omega) | rfl)) | ((with_reducible first | apply Vl.mk (α := Bool) | apply Vl.mk (α := Nat) | apply Vl.mk (α := ByteArray) | apply Ge.mk (α := Row) | apply Ge.mk (α := SV) | apply Ge.mk (α := AV)); · exact rfl) | (refine And.intro rfl ?_) | ((with_reducible first | apply Vl.mk (α := List SV) | apply Vl.mk (α := Ef) | apply Vl.mk (α := TV) | apply Ge.mk (α := List SV) | apply Sg.mk | apply Sk.mk); · (first | exact setAll_eq rfl | exact sg_all _ rfl | exact sk_all _ rfl rfl | ((first | apply sg_fc | apply sk_fc | (apply fc_eq; (conv => arg 1; whnf); apply fc_some) | apply fc_eq); (repeat' (first | exact fc_ren (wsv_scal _) | exact fc_ren (by assumption) | ((conv => arg 1; whnf); first | exact fc_nil | apply fc_cons | exact fc_int | exact fc_bool | exact fc_n | exact fc_ns | exact fc_ptr | exact fc_sl | exact fc_str | exact fc_unk | exact fc_fn | apply fc_s | apply fc_agg | apply fc_ta | apply fc_tup | exact fc_an | apply fc_ac | exact fc_tu | exact fc_nat | exact fc_bo | exact fc_none | apply fc_some | apply fc_pair | apply fc_row | apply fc_ef))); (all_goals exact rfl)) | ((dsimp only [Res.ef, renT, renA, renS, renN, nwN, upN, renRow, List.map_cons, List.map_nil, List.length_cons, List.length_nil]); first | done | exact rfl) | (dsimp only [setAll, List.set_cons_zero, List.set_cons_succ, List.cons_append, List.nil_append]; exact rfl) | exact rfl)) | ((first | apply Br.mk | apply Gd.mk) <;> (intro hb; first | (exact absurd hb (by decide)) | exact Bool.noConfusion (hb.symm.trans (by assumption) : true = false) | exact Bool.noConfusion (hb.symm.trans (by assumption) : false = true) | (simp only [decide_eq_true_eq, decide_eq_false_iff_not, beq_iff_eq, bne_iff_ne, beq_eq_false_iff_ne, bne_eq_false_iff_eq, Bool.not_eq_true', Bool.not_eq_false', Int.not_lt, Int.not_le, ge_iff_le, gt_iff_lt, ne_eq, Classical.not_not] at hb; first | (exfalso; omega) | skip) | skip)))); (all_goals (try (conv => whnf)))
  all_goals (apply Fin.mk (m := [(0, some 0)]); (focus exact rfl); (all_goals ((try (show HlS _ _ [] _)); first | ((repeat' (first | exact SVsM.nil | exact avsm_nil | exact svm_same rfl | exact svm_ptr rfl | exact svm_sl rfl | exact svm_slnil rfl | exact svsm_scal rfl | exact svsm_scal (wsv_scal _) | exact svsm_scal (by assumption) | exact hls_nil | apply SVsM.cons | apply tvm_a | apply tvm_tup | apply avm_agg | apply avm_s | apply avsm_cons | exact trivial | (refine hls_skip rfl ?_) | apply hls_none | apply hls_row | (refine rowmt_mk rfl rfl rfl rfl ?_) | exact rowmt_nil rfl rfl)); done) | exact rfl)))
theorem mayI_fn (A : Nat) (hA : A < 4294967296) (L : Int) (l : List Mi) (N : Nat) (hN : l.length = N) (hN2 : N ≤ 1000000) (h : mayV A L (l.map Mi.z) = true) :
    Fn Try.prog 20 [.agg [.int .u32 A, .int .i64 L, .sl 0 0 N]] [⟨false, 6, mcs l⟩] (· = ⟨.a (.s (.bool true)), [], []⟩) := by
  have := may_fn A hA L (l.map Mi.z) N (by rw [List.length_map]; exact hN) hN2
  rw [h, mzs_mcs] at this
  exact this
theorem bmayI_fn (A : Nat) (hA : A < 4294967296) (L : Int) (l : List Mi) (N : Nat) (hN : l.length = N) (hN2 : N ≤ 1000000) (h : mayV A L (l.map Mi.z) = true) :
    Fn Try.prog 30 [.agg [.int .u32 A, .int .i64 L, .sl 0 0 N]] [⟨false, 6, mcs l⟩] (· = ⟨.a (.s (.bool true)), [], []⟩) := by
  have := bmay_fn A hA L (l.map Mi.z) N (by rw [List.length_map]; exact hN) hN2
  rw [h, mzs_mcs] at this
  exact this
theorem maySum_n : ∀ (l : List Mi) (s L : Int), maySum (l.map Mi.z) s = some L → ∀ m ∈ l, 1 ≤ m.n ∧ m.n ≤ 16
  | [], _, _, _, m, hm => by cases hm
  | m0 :: l, s, L, h, m, hm => by
    rw [List.map_cons, maySum] at h
    split at h
    · rename_i ho
      rcases List.mem_cons.1 hm with e | e
      · subst e; exact okM_n ho
      · exact maySum_n l _ _ h m e
    · cases h
theorem foldI_fn (A : Nat) (hA : A < 4294967296) (L : Int) (l : List Mi) (N K : Nat) (hN : l.length = N) (hN2 : N ≤ 1000000) (h0 : 0 < N) (hok : ∀ m ∈ l, MiOk m) (h : mayV A L (l.map Mi.z) = true) (hK : (fldL l).length = K) :
    Fn Try.prog 12 [.agg [.int .u32 A, .int .i64 L, .sl 0 0 N]] [⟨false, 6, mcs l⟩] (· = ⟨.a (.agg [.int .u32 A, .int .i64 L, .sl 1 0 K]), [], [⟨true, 6, mcs (fldL l)⟩]⟩) := by
  subst hK
  have hn := maySum_n l 0 L ((mayV_iff _ _ _).1 h).2
  exact foldG_fn A L l N hN hN2 h0 (fun m hm => ⟨(hok m hm).1, (hok m hm).2.1, (hok m hm).2.2.1, (hok m hm).2.2.2, by have := hn m hm; omega, by have := hn m hm; omega⟩) (mayI_fn A hA L l N hN hN2 h)
end Go.Proofs.Ytpkbfpjkpiimiaa
