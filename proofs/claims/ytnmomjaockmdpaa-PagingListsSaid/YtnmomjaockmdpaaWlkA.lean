/- Page tables: Walk of both sides, on any memory. Printed by mkwlk.py. -/
import Derived.Test.YtnmomjaockmdpaaLdA
import Derived.Test.YtnmomjaockmdpaaFns
namespace Go.Proofs.Ytnmomjaockmdpaa
open Go Go.RowKit
set_option linter.unusedSimpArgs false
set_option linter.unusedVariables false

def cauV (ac : Int) : Int := if ac = 1 then 4 else if ac = 3 then 6 else 5
def knoB (ac : Int) : Bool := decide (1 ≤ ac ∧ ac ≤ 3)
set_option maxRecDepth 100000 in
theorem pcause_fn (ac : Int) : Fn Try.prog 25 [.s (.int .i64 ac)] [] (· = ⟨.tup [.s (.int .i64 (cauV ac)), .s (.bool (knoB ac))], [], []⟩) := by
  refine fn_of_vc mixed tys_ok _ _ Try.func25 (by kernel_rfl) rfl Try.ntmps25 (by rw [Try.results25]) rfl ?_; dsimp only [argTm, argHl, Nat.zero_add, Nat.reduceAdd, List.length_nil, List.length_cons]
  (repeat' ((conv => whnf); first | (with_reducible apply sd_draw; · kernel_rfl) | (apply Sd.mk; · first | exact rfl | trivial | omega | (repeat' apply And.intro) <;> first | exact rfl | exact Nat.le_of_ble_eq_true rfl | omega | decide) | ((with_reducible apply Vl.mk (α := Int)); · (first | (with_reducible exact bits_keep _ _ _ _) | ((rewrite [tdiv_pos]); (focus (first | exact wi64 (by omega) (by omega) | exact wu32 (by omega) (by omega) | exact wi32 (by omega) (by omega))); omega) | exact tmod_pos (by omega) | exact wi64 (by omega) (by omega) | exact wu32 (by omega) (by omega) | exact wu32' _ | exact wu8 (by omega) (by omega) | exact wu64 (by omega) (by omega) | exact wi32 (by omega) (by omega) | rfl)) | ((with_reducible first | apply Vl.mk (α := Bool) | apply Vl.mk (α := Nat) | apply Vl.mk (α := ByteArray) | apply Ge.mk (α := Row) | apply Ge.mk (α := SV) | apply Ge.mk (α := AV)); · exact rfl) | (refine And.intro rfl ?_) | ((with_reducible first | apply Vl.mk (α := List SV) | apply Vl.mk (α := Ef) | apply Vl.mk (α := TV) | apply Ge.mk (α := List SV) | apply Sg.mk | apply Sk.mk); · (first | exact setAll_eq rfl | exact sg_all _ rfl | exact sk_all _ rfl rfl | ((first | apply sg_fc | apply sk_fc | (apply fc_eq; (conv => arg 1; whnf); apply fc_some) | apply fc_eq); (repeat' (first | exact fc_ren (wsv_scal _) | exact fc_ren (by assumption) | ((conv => arg 1; whnf); first | exact fc_nil | apply fc_cons | exact fc_int | exact fc_bool | exact fc_n | exact fc_ns | exact fc_ptr | exact fc_sl | exact fc_str | exact fc_unk | exact fc_fn | apply fc_s | apply fc_agg | apply fc_ta | apply fc_tup | exact fc_an | apply fc_ac | exact fc_tu | exact fc_nat | exact fc_bo | exact fc_none | apply fc_some | apply fc_pair | apply fc_row | apply fc_ef))); (all_goals exact rfl)) | ((dsimp only [Res.ef, renT, renA, renS, renN, nwN, upN, renRow, List.map_cons, List.map_nil, List.length_cons, List.length_nil]); first | done | exact rfl) | (dsimp only [setAll, List.set_cons_zero, List.set_cons_succ, List.cons_append, List.nil_append]; exact rfl) | exact rfl)) | ((first | apply Br.mk | apply Gd.mk) <;> (intro hb; first | (exact absurd hb (by decide)) | exact Bool.noConfusion (hb.symm.trans (by assumption) : true = false) | exact Bool.noConfusion (hb.symm.trans (by assumption) : false = true) | (simp only [decide_eq_true_eq, decide_eq_false_iff_not, beq_iff_eq, bne_iff_ne, beq_eq_false_iff_ne, bne_eq_false_iff_eq, Bool.not_eq_true', Bool.not_eq_false', Int.not_lt, Int.not_le, ge_iff_le, gt_iff_lt, ne_eq, Classical.not_not] at hb; first | (exfalso; omega) | skip) | skip)))); (all_goals (try (conv => whnf)))
  all_goals first
    | (subst hb; exact fin_pure rfl rfl)
    | (have e1 : cauV ac = 5 := by unfold cauV; rw [if_neg (by omega), if_neg (by omega)]
       have e2 : knoB ac = false := by unfold knoB; exact decide_eq_false (by omega)
       rw [e1, e2]
       exact fin_pure rfl rfl)
    | trace_state
set_option maxRecDepth 100000 in
theorem isPageW_fn (xs : List Nat) (n f : Nat) (hn : n < 4294967296) (hf : f < 4294967296) : Fn Try.prog 16 [.s (.sl 0 0 n), .s (.int .u32 f)] [⟨false, 1, wsv xs⟩] (· = ⟨.a (.s (.bool (decide (f < mpg n)))), [], []⟩) := by
  have hm := mpg_le n
  have hp := pages_fn xs n hn
  generalize mpg n = P at *
  refine fn_of_vc mixed tys_ok _ _ Try.func16 (by kernel_rfl) rfl Try.ntmps16 (by rw [Try.results16]) rfl ?_; dsimp only [argTm, argHl, Nat.zero_add, Nat.reduceAdd, List.length_nil, List.length_cons]
  (repeat' ((conv => whnf); first | (refine vcall_det (f := 28) (hp) [⟨0, 0⟩] [(0, ⟨false, 1, wsv xs⟩)] (by first | exact rfl | simp [renA, renS, renN]) ⟨rfl, trivial⟩ (⟨rfl, rowM_ro (wsv_scal _), trivial⟩) ⟨rfl, noUp⟩ ?_) | (with_reducible apply sd_draw; · kernel_rfl) | (apply Sd.mk; · first | exact rfl | trivial | omega | (repeat' apply And.intro) <;> first | exact rfl | exact Nat.le_of_ble_eq_true rfl | omega | decide) | ((with_reducible apply Vl.mk (α := Int)); · (first | (with_reducible exact bits_keep _ _ _ _) | ((rewrite [tdiv_pos]); (focus (first | exact wi64 (by omega) (by omega) | exact wu32 (by omega) (by omega) | exact wi32 (by omega) (by omega))); omega) | exact tmod_pos (by omega) | exact wi64 (by omega) (by omega) | exact wu32 (by omega) (by omega) | exact wu32' _ | exact wu8 (by omega) (by omega) | exact wu64 (by omega) (by omega) | exact wi32 (by omega) (by omega) | rfl)) | ((with_reducible first | apply Vl.mk (α := Bool) | apply Vl.mk (α := Nat) | apply Vl.mk (α := ByteArray) | apply Ge.mk (α := Row) | apply Ge.mk (α := SV) | apply Ge.mk (α := AV)); · exact rfl) | (refine And.intro rfl ?_) | ((with_reducible first | apply Vl.mk (α := List SV) | apply Vl.mk (α := Ef) | apply Vl.mk (α := TV) | apply Ge.mk (α := List SV) | apply Sg.mk | apply Sk.mk); · (first | exact setAll_eq rfl | exact sg_all _ rfl | exact sk_all _ rfl rfl | ((first | apply sg_fc | apply sk_fc | (apply fc_eq; (conv => arg 1; whnf); apply fc_some) | apply fc_eq); (repeat' (first | exact fc_ren (wsv_scal _) | exact fc_ren (by assumption) | ((conv => arg 1; whnf); first | exact fc_nil | apply fc_cons | exact fc_int | exact fc_bool | exact fc_n | exact fc_ns | exact fc_ptr | exact fc_sl | exact fc_str | exact fc_unk | exact fc_fn | apply fc_s | apply fc_agg | apply fc_ta | apply fc_tup | exact fc_an | apply fc_ac | exact fc_tu | exact fc_nat | exact fc_bo | exact fc_none | apply fc_some | apply fc_pair | apply fc_row | apply fc_ef))); (all_goals exact rfl)) | ((dsimp only [Res.ef, renT, renA, renS, renN, nwN, upN, renRow, List.map_cons, List.map_nil, List.length_cons, List.length_nil]); first | done | exact rfl) | (dsimp only [setAll, List.set_cons_zero, List.set_cons_succ, List.cons_append, List.nil_append]; exact rfl) | exact rfl)) | ((first | apply Br.mk | apply Gd.mk) <;> (intro hb; first | (exact absurd hb (by decide)) | exact Bool.noConfusion (hb.symm.trans (by assumption) : true = false) | exact Bool.noConfusion (hb.symm.trans (by assumption) : false = true) | (simp only [decide_eq_true_eq, decide_eq_false_iff_not, beq_iff_eq, bne_iff_ne, beq_eq_false_iff_ne, bne_eq_false_iff_eq, Bool.not_eq_true', Bool.not_eq_false', Int.not_lt, Int.not_le, ge_iff_le, gt_iff_lt, ne_eq, Classical.not_not] at hb; first | (exfalso; omega) | skip) | skip)))); (all_goals (try (conv => whnf)))
  all_goals
    refine fin_ro1 rfl (wsv_scal _) rfl ?_
    simp only [mkRes]
    congr 3
    rw [Bool.eq_iff_iff, decide_eq_true_eq, decide_eq_true_eq]; omega
def frW (p : Nat) : Nat := p / 2 ^ 8 % 2 ^ 8
theorem frW_lt (p : Nat) : frW p < 256 := Nat.mod_lt _ (by decide)
set_option maxRecDepth 100000 in
theorem frameW_fn (p : Nat) (hp : p < 4294967296) : Fn Try.prog 21 [.s (.int .u32 p)] [] (· = ⟨.a (.s (.int .u32 (frW p : Nat))), [], []⟩) := by
  have h : Fn Try.prog 32 [.s (.int .u32 p), .s (.int .i64 8), .s (.int .i64 8)] [] (· = ⟨.a (.s (.int .u32 ((frW p : Nat) : Int))), [], []⟩) := field_fn p 8 8 hp (by omega) (by omega) (by omega)
  generalize frW p = F at *
  refine fn_of_vc mixed tys_ok _ _ Try.func21 (by kernel_rfl) rfl Try.ntmps21 (by rw [Try.results21]) rfl ?_; dsimp only [argTm, argHl, Nat.zero_add, Nat.reduceAdd, List.length_nil, List.length_cons]
  (repeat' ((conv => whnf); first | (refine vcall_pure (f := 32) (h) rfl ?_) | (with_reducible apply sd_draw; · kernel_rfl) | (apply Sd.mk; · first | exact rfl | trivial | omega | (repeat' apply And.intro) <;> first | exact rfl | exact Nat.le_of_ble_eq_true rfl | omega | decide) | ((with_reducible apply Vl.mk (α := Int)); · (first | (with_reducible exact bits_keep _ _ _ _) | ((rewrite [tdiv_pos]); (focus (first | exact wi64 (by omega) (by omega) | exact wu32 (by omega) (by omega) | exact wi32 (by omega) (by omega))); omega) | exact tmod_pos (by omega) | exact wi64 (by omega) (by omega) | exact wu32 (by omega) (by omega) | exact wu32' _ | exact wu8 (by omega) (by omega) | exact wu64 (by omega) (by omega) | exact wi32 (by omega) (by omega) | rfl)) | ((with_reducible first | apply Vl.mk (α := Bool) | apply Vl.mk (α := Nat) | apply Vl.mk (α := ByteArray) | apply Ge.mk (α := Row) | apply Ge.mk (α := SV) | apply Ge.mk (α := AV)); · exact rfl) | (refine And.intro rfl ?_) | ((with_reducible first | apply Vl.mk (α := List SV) | apply Vl.mk (α := Ef) | apply Vl.mk (α := TV) | apply Ge.mk (α := List SV) | apply Sg.mk | apply Sk.mk); · (first | exact setAll_eq rfl | exact sg_all _ rfl | exact sk_all _ rfl rfl | ((first | apply sg_fc | apply sk_fc | (apply fc_eq; (conv => arg 1; whnf); apply fc_some) | apply fc_eq); (repeat' (first | exact fc_ren (wsv_scal _) | exact fc_ren (by assumption) | ((conv => arg 1; whnf); first | exact fc_nil | apply fc_cons | exact fc_int | exact fc_bool | exact fc_n | exact fc_ns | exact fc_ptr | exact fc_sl | exact fc_str | exact fc_unk | exact fc_fn | apply fc_s | apply fc_agg | apply fc_ta | apply fc_tup | exact fc_an | apply fc_ac | exact fc_tu | exact fc_nat | exact fc_bo | exact fc_none | apply fc_some | apply fc_pair | apply fc_row | apply fc_ef))); (all_goals exact rfl)) | ((dsimp only [Res.ef, renT, renA, renS, renN, nwN, upN, renRow, List.map_cons, List.map_nil, List.length_cons, List.length_nil]); first | done | exact rfl) | (dsimp only [setAll, List.set_cons_zero, List.set_cons_succ, List.cons_append, List.nil_append]; exact rfl) | exact rfl)) | ((first | apply Br.mk | apply Gd.mk) <;> (intro hb; first | (exact absurd hb (by decide)) | exact Bool.noConfusion (hb.symm.trans (by assumption) : true = false) | exact Bool.noConfusion (hb.symm.trans (by assumption) : false = true) | (simp only [decide_eq_true_eq, decide_eq_false_iff_not, beq_iff_eq, bne_iff_ne, beq_eq_false_iff_ne, bne_eq_false_iff_eq, Bool.not_eq_true', Bool.not_eq_false', Int.not_lt, Int.not_le, ge_iff_le, gt_iff_lt, ne_eq, Classical.not_not] at hb; first | (exfalso; omega) | skip) | skip)))); (all_goals (try (conv => whnf)))
  all_goals exact fin_pure rfl rfl
/-- Does an entry permit an access? -/
def pmW (p : Nat) (ac : Int) : Bool := decide (p &&& 1 ≠ 0 ∧ (ac = 3 → p &&& 2 ≠ 0) ∧ (ac = 1 → p &&& 4 ≠ 0))
theorem and_w (p k : Nat) (hp : p < 4294967296) (hk : k < 4294967296) : bits .and .u32 (p : Int) (k : Int) = ((p &&& k : Nat) : Int) := u32_and_nat p k hp hk
set_option maxRecDepth 100000 in
theorem permitsW_fn (p : Nat) (ac : Int) (hp : p < 4294967296) : Fn Try.prog 27 [.s (.int .u32 p), .s (.int .i64 ac)] [] (· = ⟨.a (.s (.bool (pmW p ac))), [], []⟩) := by
  have h1 : bits .and .u32 (p : Int) 1 = ((p &&& 1 : Nat) : Int) := and_w p 1 hp (by omega)
  have h2 : bits .and .u32 (p : Int) 2 = ((p &&& 2 : Nat) : Int) := and_w p 2 hp (by omega)
  have h4 : bits .and .u32 (p : Int) 4 = ((p &&& 4 : Nat) : Int) := and_w p 4 hp (by omega)
  unfold pmW
  generalize p &&& 1 = a1 at *
  generalize p &&& 2 = a2 at *
  generalize p &&& 4 = a4 at *
  refine fn_of_vc mixed tys_ok _ _ Try.func27 (by kernel_rfl) rfl Try.ntmps27 (by rw [Try.results27]) rfl ?_; dsimp only [argTm, argHl, Nat.zero_add, Nat.reduceAdd, List.length_nil, List.length_cons]
  (repeat' ((conv => whnf); first | ((with_reducible apply Vl.mk (α := Int)); · with_reducible first | exact h1 | exact h2 | exact h4) | (with_reducible apply sd_draw; · kernel_rfl) | (apply Sd.mk; · first | exact rfl | trivial | omega | (repeat' apply And.intro) <;> first | exact rfl | exact Nat.le_of_ble_eq_true rfl | omega | decide) | ((with_reducible apply Vl.mk (α := Int)); · (first | (with_reducible exact bits_keep _ _ _ _) | ((rewrite [tdiv_pos]); (focus (first | exact wi64 (by omega) (by omega) | exact wu32 (by omega) (by omega) | exact wi32 (by omega) (by omega))); omega) | exact tmod_pos (by omega) | exact wi64 (by omega) (by omega) | exact wu32 (by omega) (by omega) | exact wu32' _ | exact wu8 (by omega) (by omega) | exact wu64 (by omega) (by omega) | exact wi32 (by omega) (by omega) | rfl)) | ((with_reducible first | apply Vl.mk (α := Bool) | apply Vl.mk (α := Nat) | apply Vl.mk (α := ByteArray) | apply Ge.mk (α := Row) | apply Ge.mk (α := SV) | apply Ge.mk (α := AV)); · exact rfl) | (refine And.intro rfl ?_) | ((with_reducible first | apply Vl.mk (α := List SV) | apply Vl.mk (α := Ef) | apply Vl.mk (α := TV) | apply Ge.mk (α := List SV) | apply Sg.mk | apply Sk.mk); · (first | exact setAll_eq rfl | exact sg_all _ rfl | exact sk_all _ rfl rfl | ((first | apply sg_fc | apply sk_fc | (apply fc_eq; (conv => arg 1; whnf); apply fc_some) | apply fc_eq); (repeat' (first | exact fc_ren (wsv_scal _) | exact fc_ren (by assumption) | ((conv => arg 1; whnf); first | exact fc_nil | apply fc_cons | exact fc_int | exact fc_bool | exact fc_n | exact fc_ns | exact fc_ptr | exact fc_sl | exact fc_str | exact fc_unk | exact fc_fn | apply fc_s | apply fc_agg | apply fc_ta | apply fc_tup | exact fc_an | apply fc_ac | exact fc_tu | exact fc_nat | exact fc_bo | exact fc_none | apply fc_some | apply fc_pair | apply fc_row | apply fc_ef))); (all_goals exact rfl)) | ((dsimp only [Res.ef, renT, renA, renS, renN, nwN, upN, renRow, List.map_cons, List.map_nil, List.length_cons, List.length_nil]); first | done | exact rfl) | (dsimp only [setAll, List.set_cons_zero, List.set_cons_succ, List.cons_append, List.nil_append]; exact rfl) | exact rfl)) | ((first | apply Br.mk | apply Gd.mk) <;> (intro hb; first | (exact absurd hb (by decide)) | exact Bool.noConfusion (hb.symm.trans (by assumption) : true = false) | exact Bool.noConfusion (hb.symm.trans (by assumption) : false = true) | (simp only [decide_eq_true_eq, decide_eq_false_iff_not, beq_iff_eq, bne_iff_ne, beq_eq_false_iff_ne, bne_eq_false_iff_eq, Bool.not_eq_true', Bool.not_eq_false', Int.not_lt, Int.not_le, ge_iff_le, gt_iff_lt, ne_eq, Classical.not_not] at hb; first | (exfalso; omega) | skip) | skip)))); (all_goals (try (conv => whnf)))
  all_goals
    apply fin_pure
    (focus rfl)
    simp only [mkRes]
    congr 3
    first
      | exact (decide_eq_false (by omega)).symm
      | exact (decide_eq_true (by omega)).symm
      | (rw [Bool.eq_iff_iff, decide_eq_true_eq]; simp only [bne_iff_ne, ne_eq]; omega)
      | trace_state
/-- What a walk finds. -/
def wlkP (xs : List Nat) (r va : Nat) : Nat := xs.getD (r * 32 + va / 128) 0
def wlkE (r va : Nat) : Nat := r * 128 + 4 * (va / 128)
def wlkOk (xs : List Nat) (n r va : Nat) (ac : Int) : Bool := knoB ac && decide (va < 4096) && decide (r < mpg n) && pmW (wlkP xs r va) ac && decide (frW (wlkP xs r va) < mpg n)
def wlkC (xs : List Nat) (n r va : Nat) (ac : Int) : List SV := if wlkOk xs n r va ac = true then [.int .u32 (frW (wlkP xs r va) * 128 + va % 128 : Nat), .int .u32 (wlkE r va : Nat), .int .i64 0] else [.int .u32 0, .int .u32 0, .int .i64 (cauV ac)]
theorem wlkC_no {xs : List Nat} {n r va : Nat} {ac : Int} (h : ¬ (knoB ac = true ∧ va < 4096 ∧ r < mpg n ∧ pmW (wlkP xs r va) ac = true ∧ frW (wlkP xs r va) < mpg n)) : wlkC xs n r va ac = [.int .u32 0, .int .u32 0, .int .i64 (cauV ac)] := by
  unfold wlkC
  rw [if_neg]
  intro hq
  unfold wlkOk at hq
  simp only [Bool.and_eq_true, decide_eq_true_eq] at hq
  exact h ⟨hq.1.1.1.1, hq.1.1.1.2, hq.1.1.2, hq.1.2, hq.2⟩
theorem wlkC_ok {xs : List Nat} {n r va : Nat} {ac : Int} (h1 : knoB ac = true) (h2 : va < 4096) (h3 : r < mpg n) (h4 : pmW (wlkP xs r va) ac = true) (h5 : frW (wlkP xs r va) < mpg n) : wlkC xs n r va ac = [.int .u32 (frW (wlkP xs r va) * 128 + va % 128 : Nat), .int .u32 (wlkE r va : Nat), .int .i64 0] := by
  unfold wlkC wlkOk
  rw [h1, h4, decide_eq_true h2, decide_eq_true h3, decide_eq_true h5]
  rfl
set_option maxRecDepth 100000 in
theorem rpagesW_fn (xs : List Nat) (n : Nat) (hn : n < 4294967296) : Fn Try.prog 14 [.s (.sl 0 0 n)] [⟨false, 1, wsv xs⟩] (· = ⟨.a (.s (.int .i64 (mpg n : Nat))), [], []⟩) := by
  refine fn_of_vc mixed tys_ok _ _ Try.func14 (by kernel_rfl) rfl Try.ntmps14 (by rw [Try.results14]) rfl ?_; dsimp only [argTm, argHl, Nat.zero_add, Nat.reduceAdd, List.length_nil, List.length_cons]
  (repeat' ((conv => whnf); first | (with_reducible apply sd_draw; · kernel_rfl) | (apply Sd.mk; · first | exact rfl | trivial | omega | (repeat' apply And.intro) <;> first | exact rfl | exact Nat.le_of_ble_eq_true rfl | omega | decide) | ((with_reducible apply Vl.mk (α := Int)); · (first | (with_reducible exact bits_keep _ _ _ _) | ((rewrite [tdiv_pos]); (focus (first | exact wi64 (by omega) (by omega) | exact wu32 (by omega) (by omega) | exact wi32 (by omega) (by omega))); omega) | exact tmod_pos (by omega) | exact wi64 (by omega) (by omega) | exact wu32 (by omega) (by omega) | exact wu32' _ | exact wu8 (by omega) (by omega) | exact wu64 (by omega) (by omega) | exact wi32 (by omega) (by omega) | rfl)) | ((with_reducible first | apply Vl.mk (α := Bool) | apply Vl.mk (α := Nat) | apply Vl.mk (α := ByteArray) | apply Ge.mk (α := Row) | apply Ge.mk (α := SV) | apply Ge.mk (α := AV)); · exact rfl) | (refine And.intro rfl ?_) | ((with_reducible first | apply Vl.mk (α := List SV) | apply Vl.mk (α := Ef) | apply Vl.mk (α := TV) | apply Ge.mk (α := List SV) | apply Sg.mk | apply Sk.mk); · (first | exact setAll_eq rfl | exact sg_all _ rfl | exact sk_all _ rfl rfl | ((first | apply sg_fc | apply sk_fc | (apply fc_eq; (conv => arg 1; whnf); apply fc_some) | apply fc_eq); (repeat' (first | exact fc_ren (wsv_scal _) | exact fc_ren (by assumption) | ((conv => arg 1; whnf); first | exact fc_nil | apply fc_cons | exact fc_int | exact fc_bool | exact fc_n | exact fc_ns | exact fc_ptr | exact fc_sl | exact fc_str | exact fc_unk | exact fc_fn | apply fc_s | apply fc_agg | apply fc_ta | apply fc_tup | exact fc_an | apply fc_ac | exact fc_tu | exact fc_nat | exact fc_bo | exact fc_none | apply fc_some | apply fc_pair | apply fc_row | apply fc_ef))); (all_goals exact rfl)) | ((dsimp only [Res.ef, renT, renA, renS, renN, nwN, upN, renRow, List.map_cons, List.map_nil, List.length_cons, List.length_nil]); first | done | exact rfl) | (dsimp only [setAll, List.set_cons_zero, List.set_cons_succ, List.cons_append, List.nil_append]; exact rfl) | exact rfl)) | ((first | apply Br.mk | apply Gd.mk) <;> (intro hb; first | (exact absurd hb (by decide)) | exact Bool.noConfusion (hb.symm.trans (by assumption) : true = false) | exact Bool.noConfusion (hb.symm.trans (by assumption) : false = true) | (simp only [decide_eq_true_eq, decide_eq_false_iff_not, beq_iff_eq, bne_iff_ne, beq_eq_false_iff_ne, bne_eq_false_iff_eq, Bool.not_eq_true', Bool.not_eq_false', Int.not_lt, Int.not_le, ge_iff_le, gt_iff_lt, ne_eq, Classical.not_not] at hb; first | (exfalso; omega) | skip) | skip)))); (all_goals (try (conv => whnf)))
  all_goals (refine fin_ro1 rfl (wsv_scal _) rfl ?_; simp only [mkRes]; congr 3; unfold mpg; split <;> omega)
theorem getD_ltW {xs : List Nat} (h : ∀ y ∈ xs, y < 4294967296) (j : Nat) : xs.getD j 0 < 4294967296 := by
  by_cases hj : j < xs.length
  · rw [List.getD_eq_getElem?_getD, List.getElem?_eq_getElem hj]; exact h _ (List.getElem_mem hj)
  · rw [List.getD_eq_getElem?_getD, List.getElem?_eq_none (by omega)]; simp
set_option maxHeartbeats 1000000 in
set_option maxRecDepth 100000 in
theorem owalk_unk (xs : List Nat) (n r va : Nat) (ac : Int) (hl : xs.length = n) (hn : n < 4294967296) (hxr : ∀ y ∈ xs, y < 4294967296) (hr : r < 4294967296) (hva : va < 4294967296) (h : knoB ac = false) :
    Fn Try.prog 15 [.s (.sl 0 0 n), .s (.int .u32 r), .s (.int .u32 va), .s (.int .i64 ac)] [⟨false, 1, wsv xs⟩] (· = ⟨.a (.agg (wlkC xs n r va ac)), [], []⟩) := by
  have hsx := wsv_scal xs
  have hm := mpg_le n
  have hmn : mpg n * 32 ≤ n := by unfold mpg; split <;> omega
  have cc := pcause_fn ac
  rw [wlkC_no (by rw [h]; simp)]
  rw [h] at cc
  generalize cauV ac = C at *
  generalize wsv xs = XX at *
  refine fn_of_vc mixed tys_ok _ _ Try.func15 (by kernel_rfl) rfl Try.ntmps15 (by rw [Try.results15]) rfl ?_; dsimp only [argTm, argHl, Nat.zero_add, Nat.reduceAdd, List.length_nil, List.length_cons]
  (repeat' ((conv => whnf); first | (refine vcall_pure (f := 25) (cc) rfl ?_) | (with_reducible apply sd_draw; · kernel_rfl) | (apply Sd.mk; · first | exact rfl | trivial | omega | (repeat' apply And.intro) <;> first | exact rfl | exact Nat.le_of_ble_eq_true rfl | omega | decide) | ((with_reducible apply Vl.mk (α := Int)); · (first | (with_reducible exact bits_keep _ _ _ _) | ((rewrite [tdiv_pos]); (focus (first | exact wi64 (by omega) (by omega) | exact wu32 (by omega) (by omega) | exact wi32 (by omega) (by omega))); omega) | exact tmod_pos (by omega) | exact wi64 (by omega) (by omega) | exact wu32 (by omega) (by omega) | exact wu32' _ | exact wu8 (by omega) (by omega) | exact wu64 (by omega) (by omega) | exact wi32 (by omega) (by omega) | rfl)) | ((with_reducible first | apply Vl.mk (α := Bool) | apply Vl.mk (α := Nat) | apply Vl.mk (α := ByteArray) | apply Ge.mk (α := Row) | apply Ge.mk (α := SV) | apply Ge.mk (α := AV)); · exact rfl) | (refine And.intro rfl ?_) | ((with_reducible first | apply Vl.mk (α := List SV) | apply Vl.mk (α := Ef) | apply Vl.mk (α := TV) | apply Ge.mk (α := List SV) | apply Sg.mk | apply Sk.mk); · (first | exact setAll_eq rfl | exact sg_all _ rfl | exact sk_all _ rfl rfl | ((first | apply sg_fc | apply sk_fc | (apply fc_eq; (conv => arg 1; whnf); apply fc_some) | apply fc_eq); (repeat' (first | exact fc_ren (wsv_scal _) | exact fc_ren (by assumption) | ((conv => arg 1; whnf); first | exact fc_nil | apply fc_cons | exact fc_int | exact fc_bool | exact fc_n | exact fc_ns | exact fc_ptr | exact fc_sl | exact fc_str | exact fc_unk | exact fc_fn | apply fc_s | apply fc_agg | apply fc_ta | apply fc_tup | exact fc_an | apply fc_ac | exact fc_tu | exact fc_nat | exact fc_bo | exact fc_none | apply fc_some | apply fc_pair | apply fc_row | apply fc_ef))); (all_goals exact rfl)) | ((dsimp only [Res.ef, renT, renA, renS, renN, nwN, upN, renRow, List.map_cons, List.map_nil, List.length_cons, List.length_nil]); first | done | exact rfl) | (dsimp only [setAll, List.set_cons_zero, List.set_cons_succ, List.cons_append, List.nil_append]; exact rfl) | exact rfl)) | ((first | apply Br.mk | apply Gd.mk) <;> (intro hb; first | (exact absurd hb (by decide)) | exact Bool.noConfusion (hb.symm.trans (by assumption) : true = false) | exact Bool.noConfusion (hb.symm.trans (by assumption) : false = true) | (simp only [decide_eq_true_eq, decide_eq_false_iff_not, beq_iff_eq, bne_iff_ne, beq_eq_false_iff_ne, bne_eq_false_iff_eq, Bool.not_eq_true', Bool.not_eq_false', Int.not_lt, Int.not_le, ge_iff_le, gt_iff_lt, ne_eq, Classical.not_not] at hb; first | (exfalso; omega) | skip) | skip)))); (all_goals (try (conv => whnf)))
  all_goals first | exact fin_ro1 rfl hsx rfl rfl | trace_state
set_option maxHeartbeats 1000000 in
set_option maxRecDepth 100000 in
theorem owalk_far (xs : List Nat) (n r va : Nat) (ac : Int) (hl : xs.length = n) (hn : n < 4294967296) (hxr : ∀ y ∈ xs, y < 4294967296) (hr : r < 4294967296) (hva : va < 4294967296) (h0 : knoB ac = true) (h : 4096 ≤ va) :
    Fn Try.prog 15 [.s (.sl 0 0 n), .s (.int .u32 r), .s (.int .u32 va), .s (.int .i64 ac)] [⟨false, 1, wsv xs⟩] (· = ⟨.a (.agg (wlkC xs n r va ac)), [], []⟩) := by
  have hsx := wsv_scal xs
  have hm := mpg_le n
  have hmn : mpg n * 32 ≤ n := by unfold mpg; split <;> omega
  have cc := pcause_fn ac
  rw [wlkC_no (by omega)]
  rw [h0] at cc
  generalize cauV ac = C at *
  generalize wsv xs = XX at *
  refine fn_of_vc mixed tys_ok _ _ Try.func15 (by kernel_rfl) rfl Try.ntmps15 (by rw [Try.results15]) rfl ?_; dsimp only [argTm, argHl, Nat.zero_add, Nat.reduceAdd, List.length_nil, List.length_cons]
  (repeat' ((conv => whnf); first | (refine vcall_pure (f := 25) (cc) rfl ?_) | (with_reducible apply sd_draw; · kernel_rfl) | (apply Sd.mk; · first | exact rfl | trivial | omega | (repeat' apply And.intro) <;> first | exact rfl | exact Nat.le_of_ble_eq_true rfl | omega | decide) | ((with_reducible apply Vl.mk (α := Int)); · (first | (with_reducible exact bits_keep _ _ _ _) | ((rewrite [tdiv_pos]); (focus (first | exact wi64 (by omega) (by omega) | exact wu32 (by omega) (by omega) | exact wi32 (by omega) (by omega))); omega) | exact tmod_pos (by omega) | exact wi64 (by omega) (by omega) | exact wu32 (by omega) (by omega) | exact wu32' _ | exact wu8 (by omega) (by omega) | exact wu64 (by omega) (by omega) | exact wi32 (by omega) (by omega) | rfl)) | ((with_reducible first | apply Vl.mk (α := Bool) | apply Vl.mk (α := Nat) | apply Vl.mk (α := ByteArray) | apply Ge.mk (α := Row) | apply Ge.mk (α := SV) | apply Ge.mk (α := AV)); · exact rfl) | (refine And.intro rfl ?_) | ((with_reducible first | apply Vl.mk (α := List SV) | apply Vl.mk (α := Ef) | apply Vl.mk (α := TV) | apply Ge.mk (α := List SV) | apply Sg.mk | apply Sk.mk); · (first | exact setAll_eq rfl | exact sg_all _ rfl | exact sk_all _ rfl rfl | ((first | apply sg_fc | apply sk_fc | (apply fc_eq; (conv => arg 1; whnf); apply fc_some) | apply fc_eq); (repeat' (first | exact fc_ren (wsv_scal _) | exact fc_ren (by assumption) | ((conv => arg 1; whnf); first | exact fc_nil | apply fc_cons | exact fc_int | exact fc_bool | exact fc_n | exact fc_ns | exact fc_ptr | exact fc_sl | exact fc_str | exact fc_unk | exact fc_fn | apply fc_s | apply fc_agg | apply fc_ta | apply fc_tup | exact fc_an | apply fc_ac | exact fc_tu | exact fc_nat | exact fc_bo | exact fc_none | apply fc_some | apply fc_pair | apply fc_row | apply fc_ef))); (all_goals exact rfl)) | ((dsimp only [Res.ef, renT, renA, renS, renN, nwN, upN, renRow, List.map_cons, List.map_nil, List.length_cons, List.length_nil]); first | done | exact rfl) | (dsimp only [setAll, List.set_cons_zero, List.set_cons_succ, List.cons_append, List.nil_append]; exact rfl) | exact rfl)) | ((first | apply Br.mk | apply Gd.mk) <;> (intro hb; first | (exact absurd hb (by decide)) | exact Bool.noConfusion (hb.symm.trans (by assumption) : true = false) | exact Bool.noConfusion (hb.symm.trans (by assumption) : false = true) | (simp only [decide_eq_true_eq, decide_eq_false_iff_not, beq_iff_eq, bne_iff_ne, beq_eq_false_iff_ne, bne_eq_false_iff_eq, Bool.not_eq_true', Bool.not_eq_false', Int.not_lt, Int.not_le, ge_iff_le, gt_iff_lt, ne_eq, Classical.not_not] at hb; first | (exfalso; omega) | skip) | skip)))); (all_goals (try (conv => whnf)))
  all_goals first | exact fin_ro1 rfl hsx rfl rfl | trace_state
set_option maxHeartbeats 1000000 in
set_option maxRecDepth 100000 in
theorem owalk_root (xs : List Nat) (n r va : Nat) (ac : Int) (hl : xs.length = n) (hn : n < 4294967296) (hxr : ∀ y ∈ xs, y < 4294967296) (hr : r < 4294967296) (hva : va < 4294967296) (h0 : knoB ac = true) (h1 : va < 4096) (h : ¬ r < mpg n) :
    Fn Try.prog 15 [.s (.sl 0 0 n), .s (.int .u32 r), .s (.int .u32 va), .s (.int .i64 ac)] [⟨false, 1, wsv xs⟩] (· = ⟨.a (.agg (wlkC xs n r va ac)), [], []⟩) := by
  have hsx := wsv_scal xs
  have hm := mpg_le n
  have hmn : mpg n * 32 ≤ n := by unfold mpg; split <;> omega
  have cc := pcause_fn ac
  rw [wlkC_no (by omega)]
  rw [h0] at cc
  have ci := isPageW_fn xs n r hn hr
  rw [decide_eq_false h] at ci
  generalize cauV ac = C at *
  generalize wsv xs = XX at *
  refine fn_of_vc mixed tys_ok _ _ Try.func15 (by kernel_rfl) rfl Try.ntmps15 (by rw [Try.results15]) rfl ?_; dsimp only [argTm, argHl, Nat.zero_add, Nat.reduceAdd, List.length_nil, List.length_cons]
  (repeat' ((conv => whnf); first | (refine vcall_pure (f := 25) (cc) rfl ?_)  |  (refine vcall_det (f := 16) ci [⟨_, 0⟩] [(_, ⟨false, 1, XX⟩)] rfl ⟨rfl, trivial⟩ ⟨rfl, rowM_ro hsx, trivial⟩ ⟨rfl, noUp⟩ ?_) | (with_reducible apply sd_draw; · kernel_rfl) | (apply Sd.mk; · first | exact rfl | trivial | omega | (repeat' apply And.intro) <;> first | exact rfl | exact Nat.le_of_ble_eq_true rfl | omega | decide) | ((with_reducible apply Vl.mk (α := Int)); · (first | (with_reducible exact bits_keep _ _ _ _) | ((rewrite [tdiv_pos]); (focus (first | exact wi64 (by omega) (by omega) | exact wu32 (by omega) (by omega) | exact wi32 (by omega) (by omega))); omega) | exact tmod_pos (by omega) | exact wi64 (by omega) (by omega) | exact wu32 (by omega) (by omega) | exact wu32' _ | exact wu8 (by omega) (by omega) | exact wu64 (by omega) (by omega) | exact wi32 (by omega) (by omega) | rfl)) | ((with_reducible first | apply Vl.mk (α := Bool) | apply Vl.mk (α := Nat) | apply Vl.mk (α := ByteArray) | apply Ge.mk (α := Row) | apply Ge.mk (α := SV) | apply Ge.mk (α := AV)); · exact rfl) | (refine And.intro rfl ?_) | ((with_reducible first | apply Vl.mk (α := List SV) | apply Vl.mk (α := Ef) | apply Vl.mk (α := TV) | apply Ge.mk (α := List SV) | apply Sg.mk | apply Sk.mk); · (first | exact setAll_eq rfl | exact sg_all _ rfl | exact sk_all _ rfl rfl | ((first | apply sg_fc | apply sk_fc | (apply fc_eq; (conv => arg 1; whnf); apply fc_some) | apply fc_eq); (repeat' (first | exact fc_ren (wsv_scal _) | exact fc_ren (by assumption) | ((conv => arg 1; whnf); first | exact fc_nil | apply fc_cons | exact fc_int | exact fc_bool | exact fc_n | exact fc_ns | exact fc_ptr | exact fc_sl | exact fc_str | exact fc_unk | exact fc_fn | apply fc_s | apply fc_agg | apply fc_ta | apply fc_tup | exact fc_an | apply fc_ac | exact fc_tu | exact fc_nat | exact fc_bo | exact fc_none | apply fc_some | apply fc_pair | apply fc_row | apply fc_ef))); (all_goals exact rfl)) | ((dsimp only [Res.ef, renT, renA, renS, renN, nwN, upN, renRow, List.map_cons, List.map_nil, List.length_cons, List.length_nil]); first | done | exact rfl) | (dsimp only [setAll, List.set_cons_zero, List.set_cons_succ, List.cons_append, List.nil_append]; exact rfl) | exact rfl)) | ((first | apply Br.mk | apply Gd.mk) <;> (intro hb; first | (exact absurd hb (by decide)) | exact Bool.noConfusion (hb.symm.trans (by assumption) : true = false) | exact Bool.noConfusion (hb.symm.trans (by assumption) : false = true) | (simp only [decide_eq_true_eq, decide_eq_false_iff_not, beq_iff_eq, bne_iff_ne, beq_eq_false_iff_ne, bne_eq_false_iff_eq, Bool.not_eq_true', Bool.not_eq_false', Int.not_lt, Int.not_le, ge_iff_le, gt_iff_lt, ne_eq, Classical.not_not] at hb; first | (exfalso; omega) | skip) | skip)))); (all_goals (try (conv => whnf)))
  all_goals first | exact fin_ro1 rfl hsx rfl rfl | trace_state
set_option maxHeartbeats 1000000 in
set_option maxRecDepth 100000 in
theorem owalk_perm (xs : List Nat) (n r va : Nat) (ac : Int) (hl : xs.length = n) (hn : n < 4294967296) (hxr : ∀ y ∈ xs, y < 4294967296) (hr : r < 4294967296) (hva : va < 4294967296) (h0 : knoB ac = true) (h1 : va < 4096) (h2 : r < mpg n) (h : pmW (wlkP xs r va) ac = false) :
    Fn Try.prog 15 [.s (.sl 0 0 n), .s (.int .u32 r), .s (.int .u32 va), .s (.int .i64 ac)] [⟨false, 1, wsv xs⟩] (· = ⟨.a (.agg (wlkC xs n r va ac)), [], []⟩) := by
  have hsx := wsv_scal xs
  have hm := mpg_le n
  have hmn : mpg n * 32 ≤ n := by unfold mpg; split <;> omega
  have cc := pcause_fn ac
  rw [h0] at cc
  have ci := isPageW_fn xs n r hn hr
  rw [decide_eq_true h2] at ci
  rw [wlkC_no (by rw [h]; simp)]
  have he : wlkE r va < 4294967296 ∧ wlkE r va / 4 = r * 32 + va / 128 ∧ ld4 n (wlkE r va) = true := by
    unfold wlkE
    refine ⟨by omega, by omega, ?_⟩
    unfold ld4; rw [decide_eq_true (by omega), decide_eq_true (by omega)]; rfl
  have hlo := load4_ok xs n (wlkE r va) hl hn he.1 he.2.2
  have hge : (wsv xs)[wlkE r va / 4]? = some (.int .u32 (wlkP xs r va : Nat)) := by
    rw [he.2.1]; exact wsv_get xs _ (by omega)
  rw [he.2.1] at hlo
  change Fn _ _ _ _ (· = ⟨.tup [.s (.int .u32 (wlkP xs r va : Nat)), .s (.bool true)], [], []⟩) at hlo
  have hp := getD_ltW hxr (r * 32 + va / 128)
  change wlkP xs r va < 4294967296 at hp
  have e1 : IntKind.u32.wrap ((va : Int).tdiv 128) = ((va / 128 : Nat) : Int) := by rw [tdiv_pos (by omega), wu32 (by omega) (by omega)]; omega
  have e1' : (va : Int) / 128 = ((va / 128 : Nat) : Int) := by omega
  have e2 : IntKind.u32.wrap (4 * ((va / 128 : Nat) : Int)) = ((4 * (va / 128) : Nat) : Int) := by rw [wu32 (by omega) (by omega)]; omega
  have e0 : IntKind.u32.wrap ((r : Int) * 128) = ((r * 128 : Nat) : Int) := by rw [wu32 (by omega) (by omega)]; omega
  have e3 : IntKind.u32.wrap (((r * 128 : Nat) : Int) + ((4 * (va / 128) : Nat) : Int)) = ((wlkE r va : Nat) : Int) := by unfold wlkE; rw [wu32 (by omega) (by omega)]; omega
  have hix : wlkE r va / 4 < n := by rw [he.2.1]; omega
  have x1 : 0 + (((wlkE r va : Nat) : Int) / 4).toNat * ty24.size = wlkE r va / 4 := by show 0 + (((wlkE r va : Nat) : Int) / 4).toNat * 1 = _; omega
  generalize wlkE r va = E at *
  have hfl := frW_lt (wlkP xs r va)
  have cpm := permitsW_fn (wlkP xs r va) ac hp
  rw [h] at cpm
  generalize wlkP xs r va = pte at *
  generalize cauV ac = C at *
  generalize wsv xs = XX at *
  refine fn_of_vc mixed tys_ok _ _ Try.func15 (by kernel_rfl) rfl Try.ntmps15 (by rw [Try.results15]) rfl ?_; dsimp only [argTm, argHl, Nat.zero_add, Nat.reduceAdd, List.length_nil, List.length_cons]
  (repeat' ((conv => whnf); first | ((with_reducible apply Vl.mk (α := Int)); · with_reducible first | exact e0 | exact e1 | exact e2 | exact e3)  |  (refine vcall_pure (f := 25) (cc) rfl ?_)  |  (refine vcall_det (f := 16) ci [⟨_, 0⟩] [(_, ⟨false, 1, XX⟩)] rfl ⟨rfl, trivial⟩ ⟨rfl, rowM_ro hsx, trivial⟩ ⟨rfl, noUp⟩ ?_)  |  (refine vcall_det (f := 26) hlo [⟨_, 0⟩] [(_, ⟨false, 1, XX⟩)] rfl ⟨rfl, trivial⟩ ⟨rfl, rowM_ro hsx, trivial⟩ ⟨rfl, noUp⟩ ?_)  |  (refine vcall_pure (f := 27) (cpm) rfl ?_) | (with_reducible apply sd_draw; · kernel_rfl) | (apply Sd.mk; · first | exact rfl | trivial | omega | (repeat' apply And.intro) <;> first | exact rfl | exact Nat.le_of_ble_eq_true rfl | omega | decide) | ((with_reducible apply Vl.mk (α := Int)); · (first | (with_reducible exact bits_keep _ _ _ _) | ((rewrite [tdiv_pos]); (focus (first | exact wi64 (by omega) (by omega) | exact wu32 (by omega) (by omega) | exact wi32 (by omega) (by omega))); omega) | exact tmod_pos (by omega) | exact wi64 (by omega) (by omega) | exact wu32 (by omega) (by omega) | exact wu32' _ | exact wu8 (by omega) (by omega) | exact wu64 (by omega) (by omega) | exact wi32 (by omega) (by omega) | rfl)) | ((with_reducible first | apply Vl.mk (α := Bool) | apply Vl.mk (α := Nat) | apply Vl.mk (α := ByteArray) | apply Ge.mk (α := Row) | apply Ge.mk (α := SV) | apply Ge.mk (α := AV)); · exact rfl) | (refine And.intro rfl ?_) | ((with_reducible first | apply Vl.mk (α := List SV) | apply Vl.mk (α := Ef) | apply Vl.mk (α := TV) | apply Ge.mk (α := List SV) | apply Sg.mk | apply Sk.mk); · (first | exact setAll_eq rfl | exact sg_all _ rfl | exact sk_all _ rfl rfl | ((first | apply sg_fc | apply sk_fc | (apply fc_eq; (conv => arg 1; whnf); apply fc_some) | apply fc_eq); (repeat' (first | exact fc_ren (wsv_scal _) | exact fc_ren (by assumption) | ((conv => arg 1; whnf); first | exact fc_nil | apply fc_cons | exact fc_int | exact fc_bool | exact fc_n | exact fc_ns | exact fc_ptr | exact fc_sl | exact fc_str | exact fc_unk | exact fc_fn | apply fc_s | apply fc_agg | apply fc_ta | apply fc_tup | exact fc_an | apply fc_ac | exact fc_tu | exact fc_nat | exact fc_bo | exact fc_none | apply fc_some | apply fc_pair | apply fc_row | apply fc_ef))); (all_goals exact rfl)) | ((dsimp only [Res.ef, renT, renA, renS, renN, nwN, upN, renRow, List.map_cons, List.map_nil, List.length_cons, List.length_nil]); first | done | exact rfl) | (dsimp only [setAll, List.set_cons_zero, List.set_cons_succ, List.cons_append, List.nil_append]; exact rfl) | exact rfl)) | ((first | apply Br.mk | apply Gd.mk) <;> (intro hb; first | (exact absurd hb (by decide)) | exact Bool.noConfusion (hb.symm.trans (by assumption) : true = false) | exact Bool.noConfusion (hb.symm.trans (by assumption) : false = true) | (simp only [decide_eq_true_eq, decide_eq_false_iff_not, beq_iff_eq, bne_iff_ne, beq_eq_false_iff_ne, bne_eq_false_iff_eq, Bool.not_eq_true', Bool.not_eq_false', Int.not_lt, Int.not_le, ge_iff_le, gt_iff_lt, ne_eq, Classical.not_not] at hb; first | (exfalso; omega) | skip) | skip)))); (all_goals (try (conv => whnf)))
  all_goals first | exact fin_ro1 rfl hsx rfl rfl | trace_state
set_option maxHeartbeats 1000000 in
set_option maxRecDepth 100000 in
theorem owalk_frm (xs : List Nat) (n r va : Nat) (ac : Int) (hl : xs.length = n) (hn : n < 4294967296) (hxr : ∀ y ∈ xs, y < 4294967296) (hr : r < 4294967296) (hva : va < 4294967296) (h0 : knoB ac = true) (h1 : va < 4096) (h2 : r < mpg n) (h3 : pmW (wlkP xs r va) ac = true) (h : ¬ frW (wlkP xs r va) < mpg n) :
    Fn Try.prog 15 [.s (.sl 0 0 n), .s (.int .u32 r), .s (.int .u32 va), .s (.int .i64 ac)] [⟨false, 1, wsv xs⟩] (· = ⟨.a (.agg (wlkC xs n r va ac)), [], []⟩) := by
  have hsx := wsv_scal xs
  have hm := mpg_le n
  have hmn : mpg n * 32 ≤ n := by unfold mpg; split <;> omega
  have cc := pcause_fn ac
  rw [h0] at cc
  have ci := isPageW_fn xs n r hn hr
  rw [decide_eq_true h2] at ci
  rw [wlkC_no (by omega)]
  have he : wlkE r va < 4294967296 ∧ wlkE r va / 4 = r * 32 + va / 128 ∧ ld4 n (wlkE r va) = true := by
    unfold wlkE
    refine ⟨by omega, by omega, ?_⟩
    unfold ld4; rw [decide_eq_true (by omega), decide_eq_true (by omega)]; rfl
  have hlo := load4_ok xs n (wlkE r va) hl hn he.1 he.2.2
  have hge : (wsv xs)[wlkE r va / 4]? = some (.int .u32 (wlkP xs r va : Nat)) := by
    rw [he.2.1]; exact wsv_get xs _ (by omega)
  rw [he.2.1] at hlo
  change Fn _ _ _ _ (· = ⟨.tup [.s (.int .u32 (wlkP xs r va : Nat)), .s (.bool true)], [], []⟩) at hlo
  have hp := getD_ltW hxr (r * 32 + va / 128)
  change wlkP xs r va < 4294967296 at hp
  have e1 : IntKind.u32.wrap ((va : Int).tdiv 128) = ((va / 128 : Nat) : Int) := by rw [tdiv_pos (by omega), wu32 (by omega) (by omega)]; omega
  have e1' : (va : Int) / 128 = ((va / 128 : Nat) : Int) := by omega
  have e2 : IntKind.u32.wrap (4 * ((va / 128 : Nat) : Int)) = ((4 * (va / 128) : Nat) : Int) := by rw [wu32 (by omega) (by omega)]; omega
  have e0 : IntKind.u32.wrap ((r : Int) * 128) = ((r * 128 : Nat) : Int) := by rw [wu32 (by omega) (by omega)]; omega
  have e3 : IntKind.u32.wrap (((r * 128 : Nat) : Int) + ((4 * (va / 128) : Nat) : Int)) = ((wlkE r va : Nat) : Int) := by unfold wlkE; rw [wu32 (by omega) (by omega)]; omega
  have hix : wlkE r va / 4 < n := by rw [he.2.1]; omega
  have x1 : 0 + (((wlkE r va : Nat) : Int) / 4).toNat * ty24.size = wlkE r va / 4 := by show 0 + (((wlkE r va : Nat) : Int) / 4).toNat * 1 = _; omega
  generalize wlkE r va = E at *
  have hfl := frW_lt (wlkP xs r va)
  have cpm := permitsW_fn (wlkP xs r va) ac hp
  rw [h3] at cpm
  have cfr := frameW_fn (wlkP xs r va) hp
  have cif := isPageW_fn xs n (frW (wlkP xs r va)) hn (by omega)
  rw [decide_eq_false h] at cif
  generalize frW (wlkP xs r va) = F at *
  generalize wlkP xs r va = pte at *
  generalize cauV ac = C at *
  generalize wsv xs = XX at *
  refine fn_of_vc mixed tys_ok _ _ Try.func15 (by kernel_rfl) rfl Try.ntmps15 (by rw [Try.results15]) rfl ?_; dsimp only [argTm, argHl, Nat.zero_add, Nat.reduceAdd, List.length_nil, List.length_cons]
  (repeat' ((conv => whnf); first | ((with_reducible apply Vl.mk (α := Int)); · with_reducible first | exact e0 | exact e1 | exact e2 | exact e3)  |  (refine vcall_pure (f := 25) (cc) rfl ?_)  |  (refine vcall_det (f := 16) ci [⟨_, 0⟩] [(_, ⟨false, 1, XX⟩)] rfl ⟨rfl, trivial⟩ ⟨rfl, rowM_ro hsx, trivial⟩ ⟨rfl, noUp⟩ ?_)  |  (refine vcall_det (f := 26) hlo [⟨_, 0⟩] [(_, ⟨false, 1, XX⟩)] rfl ⟨rfl, trivial⟩ ⟨rfl, rowM_ro hsx, trivial⟩ ⟨rfl, noUp⟩ ?_)  |  (refine vcall_pure (f := 27) (cpm) rfl ?_)  |  (refine vcall_pure (f := 21) (cfr) rfl ?_)  |  (refine vcall_det (f := 16) cif [⟨_, 0⟩] [(_, ⟨false, 1, XX⟩)] rfl ⟨rfl, trivial⟩ ⟨rfl, rowM_ro hsx, trivial⟩ ⟨rfl, noUp⟩ ?_) | (with_reducible apply sd_draw; · kernel_rfl) | (apply Sd.mk; · first | exact rfl | trivial | omega | (repeat' apply And.intro) <;> first | exact rfl | exact Nat.le_of_ble_eq_true rfl | omega | decide) | ((with_reducible apply Vl.mk (α := Int)); · (first | (with_reducible exact bits_keep _ _ _ _) | ((rewrite [tdiv_pos]); (focus (first | exact wi64 (by omega) (by omega) | exact wu32 (by omega) (by omega) | exact wi32 (by omega) (by omega))); omega) | exact tmod_pos (by omega) | exact wi64 (by omega) (by omega) | exact wu32 (by omega) (by omega) | exact wu32' _ | exact wu8 (by omega) (by omega) | exact wu64 (by omega) (by omega) | exact wi32 (by omega) (by omega) | rfl)) | ((with_reducible first | apply Vl.mk (α := Bool) | apply Vl.mk (α := Nat) | apply Vl.mk (α := ByteArray) | apply Ge.mk (α := Row) | apply Ge.mk (α := SV) | apply Ge.mk (α := AV)); · exact rfl) | (refine And.intro rfl ?_) | ((with_reducible first | apply Vl.mk (α := List SV) | apply Vl.mk (α := Ef) | apply Vl.mk (α := TV) | apply Ge.mk (α := List SV) | apply Sg.mk | apply Sk.mk); · (first | exact setAll_eq rfl | exact sg_all _ rfl | exact sk_all _ rfl rfl | ((first | apply sg_fc | apply sk_fc | (apply fc_eq; (conv => arg 1; whnf); apply fc_some) | apply fc_eq); (repeat' (first | exact fc_ren (wsv_scal _) | exact fc_ren (by assumption) | ((conv => arg 1; whnf); first | exact fc_nil | apply fc_cons | exact fc_int | exact fc_bool | exact fc_n | exact fc_ns | exact fc_ptr | exact fc_sl | exact fc_str | exact fc_unk | exact fc_fn | apply fc_s | apply fc_agg | apply fc_ta | apply fc_tup | exact fc_an | apply fc_ac | exact fc_tu | exact fc_nat | exact fc_bo | exact fc_none | apply fc_some | apply fc_pair | apply fc_row | apply fc_ef))); (all_goals exact rfl)) | ((dsimp only [Res.ef, renT, renA, renS, renN, nwN, upN, renRow, List.map_cons, List.map_nil, List.length_cons, List.length_nil]); first | done | exact rfl) | (dsimp only [setAll, List.set_cons_zero, List.set_cons_succ, List.cons_append, List.nil_append]; exact rfl) | exact rfl)) | ((first | apply Br.mk | apply Gd.mk) <;> (intro hb; first | (exact absurd hb (by decide)) | exact Bool.noConfusion (hb.symm.trans (by assumption) : true = false) | exact Bool.noConfusion (hb.symm.trans (by assumption) : false = true) | (simp only [decide_eq_true_eq, decide_eq_false_iff_not, beq_iff_eq, bne_iff_ne, beq_eq_false_iff_ne, bne_eq_false_iff_eq, Bool.not_eq_true', Bool.not_eq_false', Int.not_lt, Int.not_le, ge_iff_le, gt_iff_lt, ne_eq, Classical.not_not] at hb; first | (exfalso; omega) | skip) | skip)))); (all_goals (try (conv => whnf)))
  all_goals first | exact fin_ro1 rfl hsx rfl rfl | trace_state
set_option maxHeartbeats 1000000 in
set_option maxRecDepth 100000 in
theorem owalk_ok (xs : List Nat) (n r va : Nat) (ac : Int) (hl : xs.length = n) (hn : n < 4294967296) (hxr : ∀ y ∈ xs, y < 4294967296) (hr : r < 4294967296) (hva : va < 4294967296) (h0 : knoB ac = true) (h1 : va < 4096) (h2 : r < mpg n) (h3 : pmW (wlkP xs r va) ac = true) (h : frW (wlkP xs r va) < mpg n) :
    Fn Try.prog 15 [.s (.sl 0 0 n), .s (.int .u32 r), .s (.int .u32 va), .s (.int .i64 ac)] [⟨false, 1, wsv xs⟩] (· = ⟨.a (.agg (wlkC xs n r va ac)), [], []⟩) := by
  have hsx := wsv_scal xs
  have hm := mpg_le n
  have hmn : mpg n * 32 ≤ n := by unfold mpg; split <;> omega
  have cc := pcause_fn ac
  rw [h0] at cc
  have ci := isPageW_fn xs n r hn hr
  rw [decide_eq_true h2] at ci
  rw [wlkC_ok h0 h1 h2 h3 h]
  have he : wlkE r va < 4294967296 ∧ wlkE r va / 4 = r * 32 + va / 128 ∧ ld4 n (wlkE r va) = true := by
    unfold wlkE
    refine ⟨by omega, by omega, ?_⟩
    unfold ld4; rw [decide_eq_true (by omega), decide_eq_true (by omega)]; rfl
  have hlo := load4_ok xs n (wlkE r va) hl hn he.1 he.2.2
  have hge : (wsv xs)[wlkE r va / 4]? = some (.int .u32 (wlkP xs r va : Nat)) := by
    rw [he.2.1]; exact wsv_get xs _ (by omega)
  rw [he.2.1] at hlo
  change Fn _ _ _ _ (· = ⟨.tup [.s (.int .u32 (wlkP xs r va : Nat)), .s (.bool true)], [], []⟩) at hlo
  have hp := getD_ltW hxr (r * 32 + va / 128)
  change wlkP xs r va < 4294967296 at hp
  have e1 : IntKind.u32.wrap ((va : Int).tdiv 128) = ((va / 128 : Nat) : Int) := by rw [tdiv_pos (by omega), wu32 (by omega) (by omega)]; omega
  have e1' : (va : Int) / 128 = ((va / 128 : Nat) : Int) := by omega
  have e2 : IntKind.u32.wrap (4 * ((va / 128 : Nat) : Int)) = ((4 * (va / 128) : Nat) : Int) := by rw [wu32 (by omega) (by omega)]; omega
  have e0 : IntKind.u32.wrap ((r : Int) * 128) = ((r * 128 : Nat) : Int) := by rw [wu32 (by omega) (by omega)]; omega
  have e3 : IntKind.u32.wrap (((r * 128 : Nat) : Int) + ((4 * (va / 128) : Nat) : Int)) = ((wlkE r va : Nat) : Int) := by unfold wlkE; rw [wu32 (by omega) (by omega)]; omega
  have hix : wlkE r va / 4 < n := by rw [he.2.1]; omega
  have x1 : 0 + (((wlkE r va : Nat) : Int) / 4).toNat * ty24.size = wlkE r va / 4 := by show 0 + (((wlkE r va : Nat) : Int) / 4).toNat * 1 = _; omega
  generalize wlkE r va = E at *
  have hfl := frW_lt (wlkP xs r va)
  have cpm := permitsW_fn (wlkP xs r va) ac hp
  rw [h3] at cpm
  have cfr := frameW_fn (wlkP xs r va) hp
  have cif := isPageW_fn xs n (frW (wlkP xs r va)) hn (by omega)
  rw [decide_eq_true h] at cif
  generalize frW (wlkP xs r va) = F at *
  have e4 : IntKind.u32.wrap ((F : Int) * 128) = ((F * 128 : Nat) : Int) := by rw [wu32 (by omega) (by omega)]; omega
  have e5 : (va : Int).tmod 128 = ((va % 128 : Nat) : Int) := by rw [tmod_pos (by omega)]; omega
  have e6 : IntKind.u32.wrap (((F * 128 : Nat) : Int) + ((va % 128 : Nat) : Int)) = ((F * 128 + va % 128 : Nat) : Int) := by rw [wu32 (by omega) (by omega)]; omega
  generalize wlkP xs r va = pte at *
  generalize cauV ac = C at *
  generalize wsv xs = XX at *
  refine fn_of_vc mixed tys_ok _ _ Try.func15 (by kernel_rfl) rfl Try.ntmps15 (by rw [Try.results15]) rfl ?_; dsimp only [argTm, argHl, Nat.zero_add, Nat.reduceAdd, List.length_nil, List.length_cons]
  (repeat' ((conv => whnf); first | ((with_reducible apply Vl.mk (α := Int)); · with_reducible first | exact e0 | exact e1 | exact e2 | exact e3 | exact e4 | exact e5 | exact e6)  |  (refine vcall_pure (f := 25) (cc) rfl ?_)  |  (refine vcall_det (f := 16) ci [⟨_, 0⟩] [(_, ⟨false, 1, XX⟩)] rfl ⟨rfl, trivial⟩ ⟨rfl, rowM_ro hsx, trivial⟩ ⟨rfl, noUp⟩ ?_)  |  (refine vcall_det (f := 26) hlo [⟨_, 0⟩] [(_, ⟨false, 1, XX⟩)] rfl ⟨rfl, trivial⟩ ⟨rfl, rowM_ro hsx, trivial⟩ ⟨rfl, noUp⟩ ?_)  |  (refine vcall_pure (f := 27) (cpm) rfl ?_)  |  (refine vcall_pure (f := 21) (cfr) rfl ?_)  |  (refine vcall_det (f := 16) cif [⟨_, 0⟩] [(_, ⟨false, 1, XX⟩)] rfl ⟨rfl, trivial⟩ ⟨rfl, rowM_ro hsx, trivial⟩ ⟨rfl, noUp⟩ ?_) | (with_reducible apply sd_draw; · kernel_rfl) | (apply Sd.mk; · first | exact rfl | trivial | omega | (repeat' apply And.intro) <;> first | exact rfl | exact Nat.le_of_ble_eq_true rfl | omega | decide) | ((with_reducible apply Vl.mk (α := Int)); · (first | (with_reducible exact bits_keep _ _ _ _) | ((rewrite [tdiv_pos]); (focus (first | exact wi64 (by omega) (by omega) | exact wu32 (by omega) (by omega) | exact wi32 (by omega) (by omega))); omega) | exact tmod_pos (by omega) | exact wi64 (by omega) (by omega) | exact wu32 (by omega) (by omega) | exact wu32' _ | exact wu8 (by omega) (by omega) | exact wu64 (by omega) (by omega) | exact wi32 (by omega) (by omega) | rfl)) | ((with_reducible first | apply Vl.mk (α := Bool) | apply Vl.mk (α := Nat) | apply Vl.mk (α := ByteArray) | apply Ge.mk (α := Row) | apply Ge.mk (α := SV) | apply Ge.mk (α := AV)); · exact rfl) | (refine And.intro rfl ?_) | ((with_reducible first | apply Vl.mk (α := List SV) | apply Vl.mk (α := Ef) | apply Vl.mk (α := TV) | apply Ge.mk (α := List SV) | apply Sg.mk | apply Sk.mk); · (first | exact setAll_eq rfl | exact sg_all _ rfl | exact sk_all _ rfl rfl | ((first | apply sg_fc | apply sk_fc | (apply fc_eq; (conv => arg 1; whnf); apply fc_some) | apply fc_eq); (repeat' (first | exact fc_ren (wsv_scal _) | exact fc_ren (by assumption) | ((conv => arg 1; whnf); first | exact fc_nil | apply fc_cons | exact fc_int | exact fc_bool | exact fc_n | exact fc_ns | exact fc_ptr | exact fc_sl | exact fc_str | exact fc_unk | exact fc_fn | apply fc_s | apply fc_agg | apply fc_ta | apply fc_tup | exact fc_an | apply fc_ac | exact fc_tu | exact fc_nat | exact fc_bo | exact fc_none | apply fc_some | apply fc_pair | apply fc_row | apply fc_ef))); (all_goals exact rfl)) | ((dsimp only [Res.ef, renT, renA, renS, renN, nwN, upN, renRow, List.map_cons, List.map_nil, List.length_cons, List.length_nil]); first | done | exact rfl) | (dsimp only [setAll, List.set_cons_zero, List.set_cons_succ, List.cons_append, List.nil_append]; exact rfl) | exact rfl)) | ((first | apply Br.mk | apply Gd.mk) <;> (intro hb; first | (exact absurd hb (by decide)) | exact Bool.noConfusion (hb.symm.trans (by assumption) : true = false) | exact Bool.noConfusion (hb.symm.trans (by assumption) : false = true) | (simp only [decide_eq_true_eq, decide_eq_false_iff_not, beq_iff_eq, bne_iff_ne, beq_eq_false_iff_ne, bne_eq_false_iff_eq, Bool.not_eq_true', Bool.not_eq_false', Int.not_lt, Int.not_le, ge_iff_le, gt_iff_lt, ne_eq, Classical.not_not] at hb; first | (exfalso; omega) | skip) | skip)))); (all_goals (try (conv => whnf)))
  all_goals first | exact fin_ro1 rfl hsx rfl rfl | trace_state
theorem walkW_fn (xs : List Nat) (n r va : Nat) (ac : Int) (hl : xs.length = n) (hn : n < 4294967296) (hxr : ∀ y ∈ xs, y < 4294967296) (hr : r < 4294967296) (hva : va < 4294967296) :
    Fn Try.prog 15 [.s (.sl 0 0 n), .s (.int .u32 r), .s (.int .u32 va), .s (.int .i64 ac)] [⟨false, 1, wsv xs⟩] (· = ⟨.a (.agg (wlkC xs n r va ac)), [], []⟩) := by
  cases h0 : knoB ac with
  | false => exact owalk_unk xs n r va ac hl hn hxr hr hva h0
  | true =>
    by_cases h1 : va < 4096
    · by_cases h2 : r < mpg n
      · cases h3 : pmW (wlkP xs r va) ac with
        | false => exact owalk_perm xs n r va ac hl hn hxr hr hva h0 h1 h2 h3
        | true =>
          by_cases h4 : frW (wlkP xs r va) < mpg n
          · exact owalk_ok xs n r va ac hl hn hxr hr hva h0 h1 h2 h3 h4
          · exact owalk_frm xs n r va ac hl hn hxr hr hva h0 h1 h2 h3 h4
      · exact owalk_root xs n r va ac hl hn hxr hr hva h0 h1 h2
    · exact owalk_far xs n r va ac hl hn hxr hr hva h0 (by omega)
end Go.Proofs.Ytnmomjaockmdpaa
