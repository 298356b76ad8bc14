/- Touch of any memory. -/
import Derived.Test.YthgikkibfbkoiaaWlkA
import Derived.Test.YthgikkibfbkoiaaSt4A
namespace Go.Proofs.Ythgikkibfbkoiaa
open Go Go.RowKit
set_option linter.unusedSimpArgs false
set_option linter.unusedVariables false

theorem or_w (a b : Nat) (ha : a < 4294967296) (hb : b < 4294967296) : bits .or .u32 (a : Int) (b : Int) = ((a ||| b : Nat) : Int) ∧ a ||| b < 4294967296 := by
  have h : a ||| b < 2 ^ 32 := Nat.or_lt_two_pow (by simpa using ha) (by simpa using hb)
  have e : ∀ c : Nat, c < 4294967296 → (BitVec.ofInt 32 (c : Int)).toNat = c := fun c hc => by
    rw [BitVec.toNat_ofInt]; simp; omega
  refine ⟨?_, by simpa using h⟩
  show IntKind.u32.wrap (((BitVec.ofInt 32 (a : Int)) ||| (BitVec.ofInt 32 (b : Int))).toNat : Int) = _
  rw [BitVec.toNat_or, e a ha, e b hb, wu32']
  simp only [Nat.reducePow] at h; omega
/-- An entry that was used. -/
def tchW (p : Nat) (ac : Int) : Nat := if ac = 3 then (p ||| 8) ||| 16 else p ||| 8
theorem tchW_lt (p : Nat) (ac : Int) (hp : p < 4294967296) : tchW p ac < 4294967296 := by
  have h1 := (or_w p 8 hp (by omega)).2
  have h2 := (or_w (p ||| 8) 16 h1 (by omega)).2
  unfold tchW; split <;> assumption
set_option maxHeartbeats 1000000 in
set_option maxRecDepth 100000 in
theorem touchW_fn (xs : List Nat) (n E : Nat) (ac : Int) (hl : xs.length = n) (hn : n < 4294967296) (hxr : ∀ y ∈ xs, y < 4294967296) (hE : E < 4294967296) (hld : ld4 n E = true) :
    Fn Try.prog 21 [.s (.sl 0 0 n), .s (.int .u32 E), .s (.int .i64 ac)] [⟨false, 1, wsv xs⟩] (· = ⟨.a (.s (.sl 1 0 n)), [], [⟨true, 1, wsv (xs.set (E / 4) (tchW (xs.getD (E / 4) 0) ac))⟩]⟩) := by
  have hlo := load4_ok xs n E hl hn hE hld
  have hst := store4_ok xs n E (tchW (xs.getD (E / 4) 0) ac) hl hn hE hld
  have hp := getD_ltW hxr (E / 4)
  have hsx := wsv_scal xs
  have hs2 := wsv_scal (xs.set (E / 4) (tchW (xs.getD (E / 4) 0) ac))
  generalize wsv (xs.set (E / 4) (tchW (xs.getD (E / 4) 0) ac)) = X2 at *
  generalize xs.getD (E / 4) 0 = p at *
  have o1 := or_w p 8 hp (by omega)
  have o2 := or_w (p ||| 8) 16 o1.2 (by omega)
  have k1 : bits .or .u32 (p : Int) 8 = ((p ||| 8 : Nat) : Int) := o1.1
  have k2 : bits .or .u32 ((p ||| 8 : Nat) : Int) 16 = (((p ||| 8) ||| 16 : Nat) : Int) := o2.1
  have t3 : ac = 3 → tchW p ac = (p ||| 8) ||| 16 := fun h => if_pos h
  have t0 : ac ≠ 3 → tchW p ac = p ||| 8 := fun h => if_neg h
  clear o1 o2
  generalize (p ||| 8) ||| 16 = p2 at *
  generalize p ||| 8 = p1 at *
  generalize wsv xs = XX at *
  by_cases h3 : ac = 3
  · rw [t3 h3] at hst
    subst h3
    refine fn_of_vc mixed tys_ok _ _ Try.func21 (by kernel_rfl) rfl Try.ntmps21 (by rw [Try.results21]) rfl ?_; dsimp only [argTm, argHl, Nat.zero_add, Nat.reduceAdd, List.length_nil, List.length_cons]
    (repeat' ((conv => whnf); first | ((with_reducible apply Vl.mk (α := Int)); · with_reducible first | exact k1 | exact k2)  |  (refine vcall_det (f := 30) hlo [⟨_, 0⟩] [(_, ⟨false, 1, XX⟩)] rfl ⟨rfl, trivial⟩ ⟨rfl, rowM_ro hsx, trivial⟩ ⟨rfl, noUp⟩ ?_)  |  (refine vcall_det (f := 40) hst [⟨_, 0⟩] [(_, ⟨false, 1, XX⟩)] rfl ⟨rfl, trivial⟩ ⟨rfl, rowM_ro hsx, trivial⟩ ⟨rfl, noUp⟩ ?_) | (with_reducible apply sd_draw; · kernel_rfl) | (apply Sd.mk; · first | exact rfl | trivial | omega | (repeat' apply And.intro) <;> first | exact rfl | exact Nat.le_of_ble_eq_true rfl | omega | decide) | ((with_reducible apply Vl.mk (α := Int)); · (first | (with_reducible exact bits_keep _ _ _ _) | ((rewrite [tdiv_pos]); (focus (first | exact wi64 (by omega) (by omega) | exact wu32 (by omega) (by omega) | exact wi32 (by omega) (by omega))); omega) | exact tmod_pos (by omega) | exact wi64 (by omega) (by omega) | exact wu32 (by omega) (by omega) | exact wu32' _ | exact wu8 (by omega) (by omega) | exact wu64 (by omega) (by omega) | exact wi32 (by omega) (by omega) | rfl)) | ((with_reducible first | apply Vl.mk (α := Bool) | apply Vl.mk (α := Nat) | apply Vl.mk (α := ByteArray) | apply Ge.mk (α := Row) | apply Ge.mk (α := SV) | apply Ge.mk (α := AV)); · exact rfl) | (refine And.intro rfl ?_) | ((with_reducible first | apply Vl.mk (α := List SV) | apply Vl.mk (α := Ef) | apply Vl.mk (α := TV) | apply Ge.mk (α := List SV) | apply Sg.mk | apply Sk.mk); · (first | exact setAll_eq rfl | exact sg_all _ rfl | exact sk_all _ rfl rfl | ((first | apply sg_fc | apply sk_fc | (apply fc_eq; (conv => arg 1; whnf); apply fc_some) | apply fc_eq); (repeat' (first | exact fc_ren (wsv_scal _) | exact fc_ren (by assumption) | ((conv => arg 1; whnf); first | exact fc_nil | apply fc_cons | exact fc_int | exact fc_bool | exact fc_n | exact fc_ns | exact fc_ptr | exact fc_sl | exact fc_str | exact fc_unk | exact fc_fn | apply fc_s | apply fc_agg | apply fc_ta | apply fc_tup | exact fc_an | apply fc_ac | exact fc_tu | exact fc_nat | exact fc_bo | exact fc_none | apply fc_some | apply fc_pair | apply fc_row | apply fc_ef))); (all_goals exact rfl)) | ((dsimp only [Res.ef, renT, renA, renS, renN, nwN, upN, renRow, List.map_cons, List.map_nil, List.length_cons, List.length_nil]); first | done | exact rfl) | (dsimp only [setAll, List.set_cons_zero, List.set_cons_succ, List.cons_append, List.nil_append]; exact rfl) | exact rfl)) | ((first | apply Br.mk | apply Gd.mk) <;> (intro hb; first | (exact absurd hb (by decide)) | exact Bool.noConfusion (hb.symm.trans (by assumption) : true = false) | exact Bool.noConfusion (hb.symm.trans (by assumption) : false = true) | (simp only [decide_eq_true_eq, decide_eq_false_iff_not, beq_iff_eq, bne_iff_ne, beq_eq_false_iff_ne, bne_eq_false_iff_eq, Bool.not_eq_true', Bool.not_eq_false', Int.not_lt, Int.not_le, ge_iff_le, gt_iff_lt, ne_eq, Classical.not_not] at hb; first | (exfalso; omega) | skip) | skip)))); (all_goals (try (conv => whnf)))
    all_goals first | (apply Fin.mk (m := [(0, some 0), (1, some _)]); (focus exact rfl); (all_goals ((try (show HlS _ _ [] _)); first | ((repeat' (first | exact SVsM.nil | exact avsm_nil | exact svm_same rfl | exact svm_ptr rfl | exact svm_sl rfl | exact svm_slnil rfl | exact svsm_scal rfl | exact svsm_scal (wsv_scal _) | exact svsm_scal (by assumption) | exact hls_nil | apply SVsM.cons | apply tvm_a | apply tvm_tup | apply avm_agg | apply avm_s | apply avsm_cons | exact trivial | (refine hls_skip rfl ?_) | apply hls_none | apply hls_row | (refine rowmt_mk rfl rfl rfl rfl ?_) | exact rowmt_nil rfl rfl)); done) | exact rfl))) | trace_state
  · rw [t0 h3] at hst
    refine fn_of_vc mixed tys_ok _ _ Try.func21 (by kernel_rfl) rfl Try.ntmps21 (by rw [Try.results21]) rfl ?_; dsimp only [argTm, argHl, Nat.zero_add, Nat.reduceAdd, List.length_nil, List.length_cons]
    (repeat' ((conv => whnf); first | ((with_reducible apply Vl.mk (α := Int)); · with_reducible first | exact k1 | exact k2)  |  (refine vcall_det (f := 30) hlo [⟨_, 0⟩] [(_, ⟨false, 1, XX⟩)] rfl ⟨rfl, trivial⟩ ⟨rfl, rowM_ro hsx, trivial⟩ ⟨rfl, noUp⟩ ?_)  |  (refine vcall_det (f := 40) hst [⟨_, 0⟩] [(_, ⟨false, 1, XX⟩)] rfl ⟨rfl, trivial⟩ ⟨rfl, rowM_ro hsx, trivial⟩ ⟨rfl, noUp⟩ ?_) | (with_reducible apply sd_draw; · kernel_rfl) | (apply Sd.mk; · first | exact rfl | trivial | omega | (repeat' apply And.intro) <;> first | exact rfl | exact Nat.le_of_ble_eq_true rfl | omega | decide) | ((with_reducible apply Vl.mk (α := Int)); · (first | (with_reducible exact bits_keep _ _ _ _) | ((rewrite [tdiv_pos]); (focus (first | exact wi64 (by omega) (by omega) | exact wu32 (by omega) (by omega) | exact wi32 (by omega) (by omega))); omega) | exact tmod_pos (by omega) | exact wi64 (by omega) (by omega) | exact wu32 (by omega) (by omega) | exact wu32' _ | exact wu8 (by omega) (by omega) | exact wu64 (by omega) (by omega) | exact wi32 (by omega) (by omega) | rfl)) | ((with_reducible first | apply Vl.mk (α := Bool) | apply Vl.mk (α := Nat) | apply Vl.mk (α := ByteArray) | apply Ge.mk (α := Row) | apply Ge.mk (α := SV) | apply Ge.mk (α := AV)); · exact rfl) | (refine And.intro rfl ?_) | ((with_reducible first | apply Vl.mk (α := List SV) | apply Vl.mk (α := Ef) | apply Vl.mk (α := TV) | apply Ge.mk (α := List SV) | apply Sg.mk | apply Sk.mk); · (first | exact setAll_eq rfl | exact sg_all _ rfl | exact sk_all _ rfl rfl | ((first | apply sg_fc | apply sk_fc | (apply fc_eq; (conv => arg 1; whnf); apply fc_some) | apply fc_eq); (repeat' (first | exact fc_ren (wsv_scal _) | exact fc_ren (by assumption) | ((conv => arg 1; whnf); first | exact fc_nil | apply fc_cons | exact fc_int | exact fc_bool | exact fc_n | exact fc_ns | exact fc_ptr | exact fc_sl | exact fc_str | exact fc_unk | exact fc_fn | apply fc_s | apply fc_agg | apply fc_ta | apply fc_tup | exact fc_an | apply fc_ac | exact fc_tu | exact fc_nat | exact fc_bo | exact fc_none | apply fc_some | apply fc_pair | apply fc_row | apply fc_ef))); (all_goals exact rfl)) | ((dsimp only [Res.ef, renT, renA, renS, renN, nwN, upN, renRow, List.map_cons, List.map_nil, List.length_cons, List.length_nil]); first | done | exact rfl) | (dsimp only [setAll, List.set_cons_zero, List.set_cons_succ, List.cons_append, List.nil_append]; exact rfl) | exact rfl)) | ((first | apply Br.mk | apply Gd.mk) <;> (intro hb; first | (exact absurd hb (by decide)) | exact Bool.noConfusion (hb.symm.trans (by assumption) : true = false) | exact Bool.noConfusion (hb.symm.trans (by assumption) : false = true) | (simp only [decide_eq_true_eq, decide_eq_false_iff_not, beq_iff_eq, bne_iff_ne, beq_eq_false_iff_ne, bne_eq_false_iff_eq, Bool.not_eq_true', Bool.not_eq_false', Int.not_lt, Int.not_le, ge_iff_le, gt_iff_lt, ne_eq, Classical.not_not] at hb; first | (exfalso; omega) | skip) | skip)))); (all_goals (try (conv => whnf)))
    all_goals first | (apply Fin.mk (m := [(0, some 0), (1, some _)]); (focus exact rfl); (all_goals ((try (show HlS _ _ [] _)); first | ((repeat' (first | exact SVsM.nil | exact avsm_nil | exact svm_same rfl | exact svm_ptr rfl | exact svm_sl rfl | exact svm_slnil rfl | exact svsm_scal rfl | exact svsm_scal (wsv_scal _) | exact svsm_scal (by assumption) | exact hls_nil | apply SVsM.cons | apply tvm_a | apply tvm_tup | apply avm_agg | apply avm_s | apply avsm_cons | exact trivial | (refine hls_skip rfl ?_) | apply hls_none | apply hls_row | (refine rowmt_mk rfl rfl rfl rfl ?_) | exact rowmt_nil rfl rfl)); done) | exact rfl))) | trace_state
end Go.Proofs.Ythgikkibfbkoiaa
