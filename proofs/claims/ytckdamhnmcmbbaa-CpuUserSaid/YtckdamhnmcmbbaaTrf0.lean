/- The sign of a byte by the reference; small facts on rows. -/
import Derived.Test.YtckdamhnmcmbbaaTrfA
import Derived.Test.YtckdamhnmcmbbaaPlcA
namespace Go.Proofs.Ytckdamhnmcmbbaa
open Go Go.RowKit
set_option linter.unusedSimpArgs false
set_option linter.unusedVariables false

theorem rs_a (x : Nat) (hx : x < 4294967296) : bits .and .u32 (x : Int) (256 - 1) = ((x % 256 : Nat) : Int) := and_mask x 8 hx (by omega)
theorem rs_b (x : Nat) (hx : x < 256) : (x : Int) / 2 ^ min ((8 : Int) - 1).toNat IntKind.u32.bits = ((x / 128 : Nat) : Int) := by
  rw [show (2 : Int) ^ min ((8 : Int) - 1).toNat IntKind.u32.bits = 128 from rfl]; omega
theorem rs_c (x : Nat) (hx : x < 256) : bits .or .u32 (x : Int) 4294967040 = ((x + 4294967040 : Nat) : Int) := by
  have := or_n x 4294967040 (by omega) (by omega)
  have e : x ||| 4294967040 = x + 4294967040 := by
    rw [Nat.or_comm, show 4294967040 = 2 ^ 8 * 16777215 from rfl, ← Nat.two_pow_add_eq_or_of_lt (i := 8) (show x < 2 ^ 8 by omega)]
    omega
  rw [e] at this; exact this
set_option maxRecDepth 100000 in
theorem rsx8_fn (x : Nat) (hx : x < 4294967296) : Fn Try.prog 33 [.s (.int .u32 x), .s (.int .i64 8)] [] (· = ⟨.a (.s (.int .u32 (sx8 x : Nat))), [], []⟩) := by
  have r1 := rs_a x hx
  have r2 := rs_b (x % 256) (by omega)
  have r3 := rs_c (x % 256) (by omega)
  have m1 : IntKind.u32.wrap (1 * 2 ^ min (Int.toNat 8) IntKind.u32.bits) = 256 := rfl
  have m2 : IntKind.u32.wrap (4294967295 * 2 ^ min (Int.toNat 8) IntKind.u32.bits) = 4294967040 := rfl
  refine fn_of_vc mixed tys_ok _ _ Try.func33 (by kernel_rfl) rfl Try.ntmps33 (by rw [Try.results33]) rfl ?_; dsimp only [argTm, argHl, Nat.zero_add, Nat.reduceAdd, List.length_nil, List.length_cons]
  (repeat' ((conv => whnf); first | ((with_reducible apply Vl.mk (α := Int)); · with_reducible first | exact r1 | exact r2 | exact r3 | exact m1 | exact m2) | (with_reducible apply sd_draw; · kernel_rfl) | (apply Sd.mk; · first | exact rfl | trivial | omega | (repeat' apply And.intro) <;> first | exact rfl | exact Nat.le_of_ble_eq_true rfl | omega | decide) | ((with_reducible apply Vl.mk (α := Int)); · (first | (with_reducible exact bits_keep _ _ _ _) | ((rewrite [tdiv_pos]); (focus (first | exact wi64 (by omega) (by omega) | exact wu32 (by omega) (by omega) | exact wi32 (by omega) (by omega))); omega) | exact tmod_pos (by omega) | exact wi64 (by omega) (by omega) | exact wu32 (by omega) (by omega) | exact wu32' _ | exact wu8 (by omega) (by omega) | exact wu64 (by omega) (by omega) | exact wi32 (by omega) (by omega) | rfl)) | ((with_reducible first | apply Vl.mk (α := Bool) | apply Vl.mk (α := Nat) | apply Vl.mk (α := ByteArray) | apply Ge.mk (α := Row) | apply Ge.mk (α := SV) | apply Ge.mk (α := AV)); · exact rfl) | (refine And.intro rfl ?_) | ((with_reducible first | apply Vl.mk (α := List SV) | apply Vl.mk (α := Ef) | apply Vl.mk (α := TV) | apply Ge.mk (α := List SV) | apply Sg.mk | apply Sk.mk); · (first | exact setAll_eq rfl | exact sg_all _ rfl | exact sk_all _ rfl rfl | ((first | apply sg_fc | apply sk_fc | (apply fc_eq; (conv => arg 1; whnf); apply fc_some) | apply fc_eq); (repeat' (first | exact fc_ren (wsv_scal _) | exact fc_ren (by assumption) | ((conv => arg 1; whnf); first | exact fc_nil | apply fc_cons | exact fc_int | exact fc_bool | exact fc_n | exact fc_ns | exact fc_ptr | exact fc_sl | exact fc_str | exact fc_unk | exact fc_fn | apply fc_s | apply fc_agg | apply fc_ta | apply fc_tup | exact fc_an | apply fc_ac | exact fc_tu | exact fc_nat | exact fc_bo | exact fc_none | apply fc_some | apply fc_pair | apply fc_row | apply fc_ef))); (all_goals exact rfl)) | ((dsimp only [Res.ef, renT, renA, renS, renN, nwN, upN, renRow, List.map_cons, List.map_nil, List.length_cons, List.length_nil]); first | done | exact rfl) | (dsimp only [setAll, List.set_cons_zero, List.set_cons_succ, List.cons_append, List.nil_append]; exact rfl) | exact rfl)) | ((first | apply Br.mk | apply Gd.mk) <;> (intro hb; first | (exact absurd hb (by decide)) | exact Bool.noConfusion (hb.symm.trans (by assumption) : true = false) | exact Bool.noConfusion (hb.symm.trans (by assumption) : false = true) | (simp only [decide_eq_true_eq, decide_eq_false_iff_not, beq_iff_eq, bne_iff_ne, beq_eq_false_iff_ne, bne_eq_false_iff_eq, Bool.not_eq_true', Bool.not_eq_false', Int.not_lt, Int.not_le, ge_iff_le, gt_iff_lt, ne_eq, Classical.not_not] at hb; first | (exfalso; omega) | skip) | skip)))); (all_goals (try (conv => whnf)))
  all_goals
    refine fin_pure rfl ?_
    simp only [mkRes, sx8]
    first
      | (rw [if_pos (by omega)]; done)
      | (rw [if_neg (by omega)]; done)
theorem memL_lt (ls : List Int) (j : Nat) : ∀ y ∈ memL ls j, y < 4294967296 := by
  intro y hy
  unfold memL at hy
  obtain ⟨i, _, rfl⟩ := List.mem_map.1 hy
  split
  · exact wdN_lt _ _ _
  · omega
theorem set_lt {xs : List Nat} (h : ∀ y ∈ xs, y < 4294967296) (j w : Nat) (hw : w < 4294967296) : ∀ y ∈ xs.set j w, y < 4294967296 := fun y hy => by
  rcases List.mem_or_eq_of_mem_set hy with h1 | h1
  · exact h y h1
  · omega
end Go.Proofs.Ytckdamhnmcmbbaa
