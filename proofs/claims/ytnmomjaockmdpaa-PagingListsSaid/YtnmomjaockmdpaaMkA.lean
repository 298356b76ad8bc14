/- The functions that make inputs from numbers: Round, Next, Mix, At. -/
import Derived.Test.YtnmomjaockmdpaaAbsS
import Derived.Test.YtnmomjaockmdpaaWord
import Derived.Test.YtnmomjaockmdpaaShut
namespace Go.Proofs.Ytnmomjaockmdpaa
open Go Go.RowKit
set_option linter.unusedSimpArgs false
set_option linter.unusedVariables false

set_option maxRecDepth 100000 in
theorem rnd_fn (n k : Int) (h3 : 1 ≤ k) (h4 : k ≤ 4611686018427387904) : Fn Try.prog 23 [.s (.int .i64 n), .s (.int .i64 k)] [] (· = ⟨.a (.s (.int .i64 (n % k))), [], []⟩) := by
  have hz : (k == 0) = false := by simp; omega
  have hb := Int.tmod_lt_of_pos n (show 0 < k by omega)
  have hb' := Int.lt_tmod_of_pos n (show 0 < k by omega)
  have he : n % k = if n.tmod k < 0 then n.tmod k + k else n.tmod k := by
    rw [Int.tmod_eq_emod]
    have := Int.emod_nonneg n (show k ≠ 0 by omega)
    have := Int.emod_lt_of_pos n (show 0 < k by omega)
    split
    · rw [if_neg (by omega)]; omega
    · rename_i h
      rw [Int.natAbs_of_nonneg (by omega), if_pos (by omega)]; omega
  refine fn_of_vc mixed tys_ok _ _ Try.func23 (by kernel_rfl) rfl Try.ntmps23 (by rw [Try.results23]) rfl ?_; dsimp only [argTm, argHl, Nat.zero_add, Nat.reduceAdd, List.length_nil, List.length_cons]
  (repeat' ((conv => whnf); first | (with_reducible apply sd_draw; · kernel_rfl) | (apply Sd.mk; · first | exact rfl | trivial | omega | (repeat' apply And.intro) <;> first | exact rfl | exact Nat.le_of_ble_eq_true rfl | omega | decide) | ((with_reducible apply Vl.mk (α := Int)); · (first | (with_reducible exact bits_keep _ _ _ _) | ((rewrite [tdiv_pos]); (focus (first | exact wi64 (by omega) (by omega) | exact wu32 (by omega) (by omega) | exact wi32 (by omega) (by omega))); omega) | exact tmod_pos (by omega) | exact wi64 (by omega) (by omega) | exact wu32 (by omega) (by omega) | exact wu32' _ | exact wu8 (by omega) (by omega) | exact wu64 (by omega) (by omega) | exact wi32 (by omega) (by omega) | rfl)) | ((with_reducible first | apply Vl.mk (α := Bool) | apply Vl.mk (α := Nat) | apply Vl.mk (α := ByteArray) | apply Ge.mk (α := Row) | apply Ge.mk (α := SV) | apply Ge.mk (α := AV)); · exact rfl) | (refine And.intro rfl ?_) | ((with_reducible first | apply Vl.mk (α := List SV) | apply Vl.mk (α := Ef) | apply Vl.mk (α := TV) | apply Ge.mk (α := List SV) | apply Sg.mk | apply Sk.mk); · (first | exact setAll_eq rfl | exact sg_all _ rfl | exact sk_all _ rfl rfl | ((first | apply sg_fc | apply sk_fc | (apply fc_eq; (conv => arg 1; whnf); apply fc_some) | apply fc_eq); (repeat' (first | exact fc_ren (wsv_scal _) | exact fc_ren (by assumption) | ((conv => arg 1; whnf); first | exact fc_nil | apply fc_cons | exact fc_int | exact fc_bool | exact fc_n | exact fc_ns | exact fc_ptr | exact fc_sl | exact fc_str | exact fc_unk | exact fc_fn | apply fc_s | apply fc_agg | apply fc_ta | apply fc_tup | exact fc_an | apply fc_ac | exact fc_tu | exact fc_nat | exact fc_bo | exact fc_none | apply fc_some | apply fc_pair | apply fc_row | apply fc_ef))); (all_goals exact rfl)) | ((dsimp only [Res.ef, renT, renA, renS, renN, nwN, upN, renRow, List.map_cons, List.map_nil, List.length_cons, List.length_nil]); first | done | exact rfl) | (dsimp only [setAll, List.set_cons_zero, List.set_cons_succ, List.cons_append, List.nil_append]; exact rfl) | exact rfl)) | ((first | apply Br.mk | apply Gd.mk) <;> (intro hb; first | (exact absurd hb (by decide)) | exact Bool.noConfusion (hb.symm.trans (by assumption) : true = false) | exact Bool.noConfusion (hb.symm.trans (by assumption) : false = true) | (simp only [decide_eq_true_eq, decide_eq_false_iff_not, beq_iff_eq, bne_iff_ne, beq_eq_false_iff_ne, bne_eq_false_iff_eq, Bool.not_eq_true', Bool.not_eq_false', Int.not_lt, Int.not_le, ge_iff_le, gt_iff_lt, ne_eq, Classical.not_not] at hb; first | (exfalso; omega) | skip) | skip)))); (all_goals (try (conv => whnf)))
  · exact fin_pure rfl (by simp only [mkRes]; rw [he, if_pos hb])
  · exact fin_pure rfl (by simp only [mkRes]; rw [he, if_neg (by omega)])
def nxA (x : Int) : Int := IntKind.u64.wrap (x + 11400714819323198485)
def nxB (x : Int) : Int := IntKind.u64.wrap (bits BinOp.xor IntKind.u64 (nxA x) (nxA x / 1073741824) * 13787848793156543929)
def nxC (x : Int) : Int := IntKind.u64.wrap (bits BinOp.xor IntKind.u64 (nxB x) (nxB x / 134217728) * 10723151780598845931)
def nxZ (x : Int) : Int := bits BinOp.xor IntKind.u64 (nxC x) (nxC x / 2147483648)
theorem u64_range (n : Int) : 0 ≤ IntKind.u64.wrap n ∧ IntKind.u64.wrap n < 18446744073709551616 := by rw [IntKind.wrap_u64]; omega
theorem nxZ_range (x : Int) : 0 ≤ nxZ x ∧ nxZ x < 18446744073709551616 := u64_range _
set_option maxRecDepth 100000 in
theorem next_fn (x : Int) : Fn Try.prog 33 [.s (.int .u64 x)] [] (· = ⟨.tup [.s (.int .u64 (nxZ x)), .s (.int .u64 (nxA x))], [], []⟩) := by
  refine fn_of_vc mixed tys_ok _ _ Try.func33 (by kernel_rfl) rfl Try.ntmps33 (by rw [Try.results33]) rfl ?_; dsimp only [argTm, argHl, Nat.zero_add, Nat.reduceAdd, List.length_nil, List.length_cons]
  (repeat' ((conv => whnf); first | ((with_reducible apply Vl.mk (α := Int)); · rfl) | (with_reducible apply sd_draw; · kernel_rfl) | (apply Sd.mk; · first | exact rfl | trivial | omega | (repeat' apply And.intro) <;> first | exact rfl | exact Nat.le_of_ble_eq_true rfl | omega | decide) | ((with_reducible apply Vl.mk (α := Int)); · (first | (with_reducible exact bits_keep _ _ _ _) | ((rewrite [tdiv_pos]); (focus (first | exact wi64 (by omega) (by omega) | exact wu32 (by omega) (by omega) | exact wi32 (by omega) (by omega))); omega) | exact tmod_pos (by omega) | exact wi64 (by omega) (by omega) | exact wu32 (by omega) (by omega) | exact wu32' _ | exact wu8 (by omega) (by omega) | exact wu64 (by omega) (by omega) | exact wi32 (by omega) (by omega) | rfl)) | ((with_reducible first | apply Vl.mk (α := Bool) | apply Vl.mk (α := Nat) | apply Vl.mk (α := ByteArray) | apply Ge.mk (α := Row) | apply Ge.mk (α := SV) | apply Ge.mk (α := AV)); · exact rfl) | (refine And.intro rfl ?_) | ((with_reducible first | apply Vl.mk (α := List SV) | apply Vl.mk (α := Ef) | apply Vl.mk (α := TV) | apply Ge.mk (α := List SV) | apply Sg.mk | apply Sk.mk); · (first | exact setAll_eq rfl | exact sg_all _ rfl | exact sk_all _ rfl rfl | ((first | apply sg_fc | apply sk_fc | (apply fc_eq; (conv => arg 1; whnf); apply fc_some) | apply fc_eq); (repeat' (first | exact fc_ren (wsv_scal _) | exact fc_ren (by assumption) | ((conv => arg 1; whnf); first | exact fc_nil | apply fc_cons | exact fc_int | exact fc_bool | exact fc_n | exact fc_ns | exact fc_ptr | exact fc_sl | exact fc_str | exact fc_unk | exact fc_fn | apply fc_s | apply fc_agg | apply fc_ta | apply fc_tup | exact fc_an | apply fc_ac | exact fc_tu | exact fc_nat | exact fc_bo | exact fc_none | apply fc_some | apply fc_pair | apply fc_row | apply fc_ef))); (all_goals exact rfl)) | ((dsimp only [Res.ef, renT, renA, renS, renN, nwN, upN, renRow, List.map_cons, List.map_nil, List.length_cons, List.length_nil]); first | done | exact rfl) | (dsimp only [setAll, List.set_cons_zero, List.set_cons_succ, List.cons_append, List.nil_append]; exact rfl) | exact rfl)) | ((first | apply Br.mk | apply Gd.mk) <;> (intro hb; first | (exact absurd hb (by decide)) | exact Bool.noConfusion (hb.symm.trans (by assumption) : true = false) | exact Bool.noConfusion (hb.symm.trans (by assumption) : false = true) | (simp only [decide_eq_true_eq, decide_eq_false_iff_not, beq_iff_eq, bne_iff_ne, beq_eq_false_iff_ne, bne_eq_false_iff_eq, Bool.not_eq_true', Bool.not_eq_false', Int.not_lt, Int.not_le, ge_iff_le, gt_iff_lt, ne_eq, Classical.not_not] at hb; first | (exfalso; omega) | skip) | skip)))); (all_goals (try (conv => whnf)))
  all_goals exact fin_pure rfl rfl
def mix (n k : Int) : Int := nxZ (bits BinOp.xor IntKind.u64 (IntKind.u64.wrap n) (IntKind.u64.wrap (IntKind.u64.wrap k * 11400714819323198485))) / 2
theorem mix_range (n k : Int) : 0 ≤ mix n k ∧ mix n k ≤ 9223372036854775807 := by
  have := nxZ_range (bits BinOp.xor IntKind.u64 (IntKind.u64.wrap n) (IntKind.u64.wrap (IntKind.u64.wrap k * 11400714819323198485)))
  unfold mix; omega
theorem mix_last (n k : Int) : IntKind.i64.wrap (nxZ (bits BinOp.xor IntKind.u64 (IntKind.u64.wrap n) (IntKind.u64.wrap (IntKind.u64.wrap k * 11400714819323198485))) / 2 ^ min (Int.toNat 1) IntKind.u64.bits) = mix n k := by
  rw [show (2 : Int) ^ min (Int.toNat 1) IntKind.u64.bits = 2 from rfl]
  have := mix_range n k
  exact wi64 (by unfold mix at this; omega) (by unfold mix at this; omega)
set_option maxRecDepth 100000 in
theorem mix_fn (n k : Int) : Fn Try.prog 24 [.s (.int .i64 n), .s (.int .i64 k)] [] (· = ⟨.a (.s (.int .i64 (mix n k))), [], []⟩) := by
  refine fn_of_vc mixed tys_ok _ _ Try.func24 (by kernel_rfl) rfl Try.ntmps24 (by rw [Try.results24]) rfl ?_; dsimp only [argTm, argHl, Nat.zero_add, Nat.reduceAdd, List.length_nil, List.length_cons]
  (repeat' ((conv => whnf); first | (refine vcall_pure (f := 33) (next_fn _) rfl ?_)  |  ((with_reducible apply Vl.mk (α := Int)); · first | exact mix_last n k | rfl) | (with_reducible apply sd_draw; · kernel_rfl) | (apply Sd.mk; · first | exact rfl | trivial | omega | (repeat' apply And.intro) <;> first | exact rfl | exact Nat.le_of_ble_eq_true rfl | omega | decide) | ((with_reducible apply Vl.mk (α := Int)); · (first | (with_reducible exact bits_keep _ _ _ _) | ((rewrite [tdiv_pos]); (focus (first | exact wi64 (by omega) (by omega) | exact wu32 (by omega) (by omega) | exact wi32 (by omega) (by omega))); omega) | exact tmod_pos (by omega) | exact wi64 (by omega) (by omega) | exact wu32 (by omega) (by omega) | exact wu32' _ | exact wu8 (by omega) (by omega) | exact wu64 (by omega) (by omega) | exact wi32 (by omega) (by omega) | rfl)) | ((with_reducible first | apply Vl.mk (α := Bool) | apply Vl.mk (α := Nat) | apply Vl.mk (α := ByteArray) | apply Ge.mk (α := Row) | apply Ge.mk (α := SV) | apply Ge.mk (α := AV)); · exact rfl) | (refine And.intro rfl ?_) | ((with_reducible first | apply Vl.mk (α := List SV) | apply Vl.mk (α := Ef) | apply Vl.mk (α := TV) | apply Ge.mk (α := List SV) | apply Sg.mk | apply Sk.mk); · (first | exact setAll_eq rfl | exact sg_all _ rfl | exact sk_all _ rfl rfl | ((first | apply sg_fc | apply sk_fc | (apply fc_eq; (conv => arg 1; whnf); apply fc_some) | apply fc_eq); (repeat' (first | exact fc_ren (wsv_scal _) | exact fc_ren (by assumption) | ((conv => arg 1; whnf); first | exact fc_nil | apply fc_cons | exact fc_int | exact fc_bool | exact fc_n | exact fc_ns | exact fc_ptr | exact fc_sl | exact fc_str | exact fc_unk | exact fc_fn | apply fc_s | apply fc_agg | apply fc_ta | apply fc_tup | exact fc_an | apply fc_ac | exact fc_tu | exact fc_nat | exact fc_bo | exact fc_none | apply fc_some | apply fc_pair | apply fc_row | apply fc_ef))); (all_goals exact rfl)) | ((dsimp only [Res.ef, renT, renA, renS, renN, nwN, upN, renRow, List.map_cons, List.map_nil, List.length_cons, List.length_nil]); first | done | exact rfl) | (dsimp only [setAll, List.set_cons_zero, List.set_cons_succ, List.cons_append, List.nil_append]; exact rfl) | exact rfl)) | ((first | apply Br.mk | apply Gd.mk) <;> (intro hb; first | (exact absurd hb (by decide)) | exact Bool.noConfusion (hb.symm.trans (by assumption) : true = false) | exact Bool.noConfusion (hb.symm.trans (by assumption) : false = true) | (simp only [decide_eq_true_eq, decide_eq_false_iff_not, beq_iff_eq, bne_iff_ne, beq_eq_false_iff_ne, bne_eq_false_iff_eq, Bool.not_eq_true', Bool.not_eq_false', Int.not_lt, Int.not_le, ge_iff_le, gt_iff_lt, ne_eq, Classical.not_not] at hb; first | (exfalso; omega) | skip) | skip)))); (all_goals (try (conv => whnf)))
  all_goals exact fin_pure rfl rfl
theorem isv_get (k : IntKind) (ls : List Int) (i : Nat) (h : i < ls.length) : (isv k ls)[i]? = some (.int k (ls.getD i 0)) := by
  unfold isv; rw [List.getElem?_map, List.getElem?_eq_getElem h]; simp [List.getD, h]
theorem isv_scal (k : IntKind) (ls : List Int) : allScal (isv k ls) = true := by
  induction ls with
  | nil => rfl
  | cons x xs ih => exact ih
/-- A number out of a list, in turn. -/
def atL (ls : List Int) (i : Int) : Int := match ls.length with
  | 0 => 0
  | n => ls.getD (i % (n : Nat)).toNat 0
end Go.Proofs.Ytnmomjaockmdpaa
