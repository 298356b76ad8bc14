/- The processor: Trap, Return, Write. -/
import Derived.Test.YtckdamhnmcmbbaaCpuD
namespace Go.Proofs.Ytckdamhnmcmbbaa
open Go Go.RowKit
set_option linter.unusedSimpArgs false
set_option linter.unusedVariables false

set_option maxHeartbeats 4000000 in
set_option maxRecDepth 100000 in
theorem trap_fn (x : List Nat) (pc : Nat) (c : List Nat) (cause : Int) (bad : Nat) (hx : x.length = 16) (hc : c.length = 8) (hcl : ∀ y ∈ c, y < 4294967296) : Fn Try.prog 19 [.agg (cpuC x pc c), .s (.int .i64 cause), .s (.int .u32 bad)] [] (· = ⟨.a (.agg (trapC x pc c cause bad)), [], []⟩) := by
  obtain ⟨x0, x1, x2, x3, x4, x5, x6, x7, x8, x9, x10, x11, x12, x13, x14, x15, rfl⟩ := len16 hx
  obtain ⟨c0, c1, c2, c3, c4, c5, c6, c7, rfl⟩ := len8 hc
  have h0 : c0 < 4294967296 := hcl c0 (by simp)
  have m1 := mvN_lt c0 1 8 h0 (by omega)
  have m2 := mvN_lt _ 2 16 m1 (by omega)
  have m3 : mvN (mvN c0 1 8) 2 16 ||| 1 < 4294967296 := Nat.or_lt_two_pow (n := 32) m2 (by omega)
  have e1 : bits .or .u32 ((mvN (mvN c0 1 8) 2 16 : Nat) : Int) 1 = ((mvN (mvN c0 1 8) 2 16 ||| 1 : Nat) : Int) := or_n _ 1 m2 (by omega)
  have e2 : bits .andNot .u32 ((mvN (mvN c0 1 8) 2 16 ||| 1 : Nat) : Int) 2 = ((trapS c0 : Nat) : Int) := by rw [← trap_ok c0 h0]; exact andNot_n _ 2 m3 (by omega)
  have f1 := move_fn c0 1 8 h0 (by omega) (by omega)
  have f2 := move_fn (mvN c0 1 8) 2 16 m1 (by omega) (by omega)
  show Fn _ _ [.agg _, _, _] [] (· = ⟨.a (.agg (cpuC [x0, x1, x2, x3, x4, x5, x6, x7, x8, x9, x10, x11, x12, x13, x14, x15] c1 [trapS c0, c1, pc, (cause % 4294967296).toNat, bad, c5, c6, c7])), [], []⟩)
  generalize trapS c0 = tS at *
  generalize hM2 : mvN (mvN c0 1 8) 2 16 = M2 at *
  generalize hM1 : mvN c0 1 8 = M1 at *
  generalize M2 ||| 1 = M3 at *
  refine fn_of_vc mixed tys_ok _ _ Try.func19 (by kernel_rfl) rfl Try.ntmps19 (by rw [Try.results19]) rfl ?_; dsimp only [argTm, argHl, Nat.zero_add, Nat.reduceAdd, List.length_nil, List.length_cons]
  (repeat' ((conv => whnf); first | (refine vcall_pure (f := 41) (f1) rfl ?_)  |  (refine vcall_pure (f := 41) (f2) rfl ?_)  |  ((with_reducible apply Vl.mk (α := Int)); · with_reducible first | exact e1 | exact e2 | exact w32t _) | (with_reducible apply sd_draw; · kernel_rfl) | (apply Sd.mk; · first | exact rfl | trivial | omega | (repeat' apply And.intro) <;> first | exact rfl | exact Nat.le_of_ble_eq_true rfl | omega | decide) | ((with_reducible apply Vl.mk (α := Int)); · (first | (with_reducible exact bits_keep _ _ _ _) | ((rewrite [tdiv_pos]); (focus (first | exact wi64 (by omega) (by omega) | exact wu32 (by omega) (by omega) | exact wi32 (by omega) (by omega))); omega) | exact tmod_pos (by omega) | exact wi64 (by omega) (by omega) | exact wu32 (by omega) (by omega) | exact wu32' _ | exact wu8 (by omega) (by omega) | exact wu64 (by omega) (by omega) | exact wi32 (by omega) (by omega) | rfl)) | ((with_reducible first | apply Vl.mk (α := Bool) | apply Vl.mk (α := Nat) | apply Vl.mk (α := ByteArray) | apply Ge.mk (α := Row) | apply Ge.mk (α := SV) | apply Ge.mk (α := AV)); · exact rfl) | (refine And.intro rfl ?_) | ((with_reducible first | apply Vl.mk (α := List SV) | apply Vl.mk (α := Ef) | apply Vl.mk (α := TV) | apply Ge.mk (α := List SV) | apply Sg.mk | apply Sk.mk); · (first | exact setAll_eq rfl | exact sg_all _ rfl | exact sk_all _ rfl rfl | ((first | apply sg_fc | apply sk_fc | (apply fc_eq; (conv => arg 1; whnf); apply fc_some) | apply fc_eq); (repeat' (first | exact fc_ren (wsv_scal _) | exact fc_ren (by assumption) | ((conv => arg 1; whnf); first | exact fc_nil | apply fc_cons | exact fc_int | exact fc_bool | exact fc_n | exact fc_ns | exact fc_ptr | exact fc_sl | exact fc_str | exact fc_unk | exact fc_fn | apply fc_s | apply fc_agg | apply fc_ta | apply fc_tup | exact fc_an | apply fc_ac | exact fc_tu | exact fc_nat | exact fc_bo | exact fc_none | apply fc_some | apply fc_pair | apply fc_row | apply fc_ef))); (all_goals exact rfl)) | ((dsimp only [Res.ef, renT, renA, renS, renN, nwN, upN, renRow, List.map_cons, List.map_nil, List.length_cons, List.length_nil]); first | done | exact rfl) | (dsimp only [setAll, List.set_cons_zero, List.set_cons_succ, List.cons_append, List.nil_append]; exact rfl) | exact rfl)) | ((first | apply Br.mk | apply Gd.mk) <;> (intro hb; first | (exact absurd hb (by decide)) | exact Bool.noConfusion (hb.symm.trans (by assumption) : true = false) | exact Bool.noConfusion (hb.symm.trans (by assumption) : false = true) | (simp only [decide_eq_true_eq, decide_eq_false_iff_not, beq_iff_eq, bne_iff_ne, beq_eq_false_iff_ne, bne_eq_false_iff_eq, Bool.not_eq_true', Bool.not_eq_false', Int.not_lt, Int.not_le, ge_iff_le, gt_iff_lt, ne_eq, Classical.not_not] at hb; first | (exfalso; omega) | skip) | skip)))); (all_goals (try (conv => whnf)))
  all_goals exact fin_pure rfl rfl
end Go.Proofs.Ytckdamhnmcmbbaa
