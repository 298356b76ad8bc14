/- Blocks: from an instruction to its operation. -/
import Derived.Test.YtppjiheebpabjaaIsaC
import Derived.Test.YtppjiheebpabjaaBlkR
namespace Go.Proofs.Ytppjiheebpabjaa
open Go Go.RowKit
set_option linter.unusedSimpArgs false
set_option linter.unusedVariables false

/-- An operation as the code holds it. -/
def mv (o a b c k n : Int) : List SV := [.int .i64 o, .int .i64 a, .int .i64 b, .int .i64 c, .int .u32 k, .int .i64 n]
def trK (o m : Int) : Int := if o = 24 then m % 4294967296 * 65536 % 4294967296 else if 40 ≤ o ∧ o ≤ 45 ∨ o = 48 then m % 4294967296 * 4 % 4294967296 else m % 4294967296
theorem shl16 (x : Int) : IntKind.u32.wrap (x * 2 ^ min ((16 : Int)).toNat IntKind.u32.bits) = x * 65536 % 4294967296 := by
  rw [show (2 : Int) ^ min ((16 : Int)).toNat IntKind.u32.bits = 65536 from rfl]
  exact wu32' _
set_option maxRecDepth 100000 in
theorem translate_fn (o a b c m : Int) : Fn Try.prog 30 [.agg (iv o a b c m)] [] (· = ⟨.a (.agg (mv o a b c (trK o m) 1)), [], []⟩) := by
  refine fn_of_vc mixed tys_ok _ _ Try.func30 (by kernel_rfl) rfl Try.ntmps30 (by rw [Try.results30]) rfl ?_; dsimp only [argTm, argHl, Nat.zero_add, Nat.reduceAdd, List.length_nil, List.length_cons]
  unfold iv
  (repeat' ((conv => whnf); first | ((with_reducible apply Vl.mk (α := Int)); · first | exact shl16 _ | exact wu32' _) | (with_reducible apply sd_draw; · kernel_rfl) | (apply Sd.mk; · first | exact rfl | trivial | omega | (repeat' apply And.intro) <;> first | exact rfl | exact Nat.le_of_ble_eq_true rfl | omega | decide) | ((with_reducible apply Vl.mk (α := Int)); · (first | (with_reducible exact bits_keep _ _ _ _) | ((rewrite [tdiv_pos]); (focus (first | exact wi64 (by omega) (by omega) | exact wu32 (by omega) (by omega) | exact wi32 (by omega) (by omega))); omega) | exact tmod_pos (by omega) | exact wi64 (by omega) (by omega) | exact wu32 (by omega) (by omega) | exact wu32' _ | exact wu8 (by omega) (by omega) | exact wu64 (by omega) (by omega) | exact wi32 (by omega) (by omega) | rfl)) | ((with_reducible first | apply Vl.mk (α := Bool) | apply Vl.mk (α := Nat) | apply Vl.mk (α := ByteArray) | apply Ge.mk (α := Row) | apply Ge.mk (α := SV) | apply Ge.mk (α := AV)); · exact rfl) | (refine And.intro rfl ?_) | ((with_reducible first | apply Vl.mk (α := List SV) | apply Vl.mk (α := Ef) | apply Vl.mk (α := TV) | apply Ge.mk (α := List SV) | apply Sg.mk | apply Sk.mk); · (first | exact setAll_eq rfl | exact sg_all _ rfl | exact sk_all _ rfl rfl | ((first | apply sg_fc | apply sk_fc | (apply fc_eq; (conv => arg 1; whnf); apply fc_some) | apply fc_eq); (repeat' (first | exact fc_ren (wsv_scal _) | exact fc_ren (by assumption) | ((conv => arg 1; whnf); first | exact fc_nil | apply fc_cons | exact fc_int | exact fc_bool | exact fc_n | exact fc_ns | exact fc_ptr | exact fc_sl | exact fc_str | exact fc_unk | exact fc_fn | apply fc_s | apply fc_agg | apply fc_ta | apply fc_tup | exact fc_an | apply fc_ac | exact fc_tu | exact fc_nat | exact fc_bo | exact fc_none | apply fc_some | apply fc_pair | apply fc_row | apply fc_ef))); (all_goals exact rfl)) | ((dsimp only [Res.ef, renT, renA, renS, renN, nwN, upN, renRow, List.map_cons, List.map_nil, List.length_cons, List.length_nil]); first | done | exact rfl) | (dsimp only [setAll, List.set_cons_zero, List.set_cons_succ, List.cons_append, List.nil_append]; exact rfl) | exact rfl)) | ((first | apply Br.mk | apply Gd.mk) <;> (intro hb; first | (exact absurd hb (by decide)) | exact Bool.noConfusion (hb.symm.trans (by assumption) : true = false) | exact Bool.noConfusion (hb.symm.trans (by assumption) : false = true) | (simp only [decide_eq_true_eq, decide_eq_false_iff_not, beq_iff_eq, bne_iff_ne, beq_eq_false_iff_ne, bne_eq_false_iff_eq, Bool.not_eq_true', Bool.not_eq_false', Int.not_lt, Int.not_le, ge_iff_le, gt_iff_lt, ne_eq, Classical.not_not] at hb; first | (exfalso; omega) | skip) | skip)))); (all_goals (try (conv => whnf)))
  all_goals
    refine fin_pure rfl ?_
    simp only [mkRes, mv]
    (try subst hb)
    first
      | rfl
      | (congr 5; simp only [trK]; (try rw [if_neg (by omega), if_pos (by omega)]); (try rw [if_neg (by omega), if_neg (by omega)]))
end Go.Proofs.Ytppjiheebpabjaa
