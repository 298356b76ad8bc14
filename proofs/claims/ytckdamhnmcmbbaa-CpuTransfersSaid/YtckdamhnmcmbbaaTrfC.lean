/- CpuTransfers: the law. -/
import Derived.Test.YtckdamhnmcmbbaaTrfB
import Derived.Test.YtckdamhnmcmbbaaLnkB
namespace Go.Proofs.Ytckdamhnmcmbbaa
open Go Go.RowKit
set_option linter.unusedSimpArgs false
set_option linter.unusedVariables false

theorem rs_a (x : Nat) (hx : x < 4294967296) : bits .and .u32 (x : Int) (256 - 1) = ((x % 256 : Nat) : Int) := and_mask x 8 hx (by omega)
theorem rs_b (x : Nat) (hx : x < 256) : (x : Int) / 2 ^ min ((8 : Int) - 1).toNat IntKind.u32.bits = ((x / 128 : Nat) : Int) := by
  rw [show (2 : Int) ^ min ((8 : Int) - 1).toNat IntKind.u32.bits = 128 from rfl]; omega
theorem rs_c (x : Nat) (hx : x < 256) : bits .or .u32 (x : Int) 4294967040 = ((x + 4294967040 : Nat) : Int) := by
  have := or_n x 4294967040 (by omega) (by omega)
  have e : x ||| 4294967040 = x + 4294967040 := by
    rw [Nat.or_comm, show 4294967040 = 2 ^ 8 * 16777215 from rfl, ← Nat.two_pow_add_eq_or_of_lt (i := 8) (show x < 2 ^ 8 by omega)]
    omega
  rw [e] at this; exact this
set_option maxRecDepth 100000 in
theorem rsx8_fn (x : Nat) (hx : x < 4294967296) : Fn Try.prog 33 [.s (.int .u32 x), .s (.int .i64 8)] [] (· = ⟨.a (.s (.int .u32 (sx8 x : Nat))), [], []⟩) := by
  have r1 := rs_a x hx
  have r2 := rs_b (x % 256) (by omega)
  have r3 := rs_c (x % 256) (by omega)
  have m1 : IntKind.u32.wrap (1 * 2 ^ min (Int.toNat 8) IntKind.u32.bits) = 256 := rfl
  have m2 : IntKind.u32.wrap (4294967295 * 2 ^ min (Int.toNat 8) IntKind.u32.bits) = 4294967040 := rfl
  refine fn_of_vc mixed tys_ok _ _ Try.func33 (by kernel_rfl) rfl Try.ntmps33 (by rw [Try.results33]) rfl ?_; dsimp only [argTm, argHl, Nat.zero_add, Nat.reduceAdd, List.length_nil, List.length_cons]
  (repeat' ((conv => whnf); first | ((with_reducible apply Vl.mk (α := Int)); · with_reducible first | exact r1 | exact r2 | exact r3 | exact m1 | exact m2) | (with_reducible apply sd_draw; · kernel_rfl) | (apply Sd.mk; · first | exact rfl | trivial | omega | (repeat' apply And.intro) <;> first | exact rfl | exact Nat.le_of_ble_eq_true rfl | omega | decide) | ((with_reducible apply Vl.mk (α := Int)); · (first | (with_reducible exact bits_keep _ _ _ _) | ((rewrite [tdiv_pos]); (focus (first | exact wi64 (by omega) (by omega) | exact wu32 (by omega) (by omega) | exact wi32 (by omega) (by omega))); omega) | exact tmod_pos (by omega) | exact wi64 (by omega) (by omega) | exact wu32 (by omega) (by omega) | exact wu32' _ | exact wu8 (by omega) (by omega) | exact wu64 (by omega) (by omega) | exact wi32 (by omega) (by omega) | rfl)) | ((with_reducible apply Vl.mk (α := Bool)); · exact rfl) | (refine And.intro rfl ?_) | ((with_reducible apply Vl.mk (α := Nat)); · first | exact rfl) | ((with_reducible apply Vl.mk (α := List SV)); · (first | (exact setAll_eq rfl) | (apply fc_eq; ((repeat' (first | exact fc_ren (wsv_scal _) | exact fc_ren (by assumption) | ((conv => arg 1; whnf); first | exact fc_nil | apply fc_cons | exact fc_int | exact fc_bool | exact fc_n | exact fc_ns | exact fc_ptr | exact fc_sl | exact fc_str | exact fc_unk | exact fc_fn | apply fc_s | apply fc_agg | apply fc_ta | apply fc_tup | exact fc_an | apply fc_ac | exact fc_tu | exact fc_nat | exact fc_bo | exact fc_none | apply fc_some | apply fc_pair | apply fc_row | apply fc_ef))); done)) | (dsimp only [setAll, List.set_cons_zero, List.set_cons_succ, List.cons_append, List.nil_append]; exact rfl) | exact rfl)) | ((with_reducible apply Vl.mk (α := ByteArray)); · exact rfl) | ((with_reducible apply Vl.mk (α := Ef)); · first | (apply fc_eq; ((repeat' (first | exact fc_ren (wsv_scal _) | exact fc_ren (by assumption) | ((conv => arg 1; whnf); first | exact fc_nil | apply fc_cons | exact fc_int | exact fc_bool | exact fc_n | exact fc_ns | exact fc_ptr | exact fc_sl | exact fc_str | exact fc_unk | exact fc_fn | apply fc_s | apply fc_agg | apply fc_ta | apply fc_tup | exact fc_an | apply fc_ac | exact fc_tu | exact fc_nat | exact fc_bo | exact fc_none | apply fc_some | apply fc_pair | apply fc_row | apply fc_ef))); done)) | ((dsimp only [Res.ef, renT, renA, renS, renN, nwN, upN, renRow, List.map_cons, List.map_nil, List.length_cons, List.length_nil]); first | done | exact rfl)) | ((with_reducible apply Ge.mk (α := Row)); · exact rfl) | ((with_reducible apply Ge.mk (α := SV)); · first | exact rfl) | ((with_reducible apply Ge.mk (α := AV)); · first | exact rfl) | ((with_reducible apply Ge.mk (α := List SV)); · (apply fc_eq; (conv => arg 1; whnf); apply fc_some; ((repeat' (first | exact fc_ren (wsv_scal _) | exact fc_ren (by assumption) | ((conv => arg 1; whnf); first | exact fc_nil | apply fc_cons | exact fc_int | exact fc_bool | exact fc_n | exact fc_ns | exact fc_ptr | exact fc_sl | exact fc_str | exact fc_unk | exact fc_fn | apply fc_s | apply fc_agg | apply fc_ta | apply fc_tup | exact fc_an | apply fc_ac | exact fc_tu | exact fc_nat | exact fc_bo | exact fc_none | apply fc_some | apply fc_pair | apply fc_row | apply fc_ef))); done))) | ((with_reducible apply Vl.mk (α := TV)); · first | (apply fc_eq; ((repeat' (first | exact fc_ren (wsv_scal _) | exact fc_ren (by assumption) | ((conv => arg 1; whnf); first | exact fc_nil | apply fc_cons | exact fc_int | exact fc_bool | exact fc_n | exact fc_ns | exact fc_ptr | exact fc_sl | exact fc_str | exact fc_unk | exact fc_fn | apply fc_s | apply fc_agg | apply fc_ta | apply fc_tup | exact fc_an | apply fc_ac | exact fc_tu | exact fc_nat | exact fc_bo | exact fc_none | apply fc_some | apply fc_pair | apply fc_row | apply fc_ef))); done)) | exact rfl) | (apply Sg.mk; · first | exact sg_all _ rfl | (apply sg_fc; (focus ((repeat' (first | exact fc_ren (wsv_scal _) | exact fc_ren (by assumption) | ((conv => arg 1; whnf); first | exact fc_nil | apply fc_cons | exact fc_int | exact fc_bool | exact fc_n | exact fc_ns | exact fc_ptr | exact fc_sl | exact fc_str | exact fc_unk | exact fc_fn | apply fc_s | apply fc_agg | apply fc_ta | apply fc_tup | exact fc_an | apply fc_ac | exact fc_tu | exact fc_nat | exact fc_bo | exact fc_none | apply fc_some | apply fc_pair | apply fc_row | apply fc_ef))); done)); (focus exact rfl))) | (apply Sk.mk; · first | exact sk_all _ rfl rfl | (apply sk_fc; (focus ((repeat' (first | exact fc_ren (wsv_scal _) | exact fc_ren (by assumption) | ((conv => arg 1; whnf); first | exact fc_nil | apply fc_cons | exact fc_int | exact fc_bool | exact fc_n | exact fc_ns | exact fc_ptr | exact fc_sl | exact fc_str | exact fc_unk | exact fc_fn | apply fc_s | apply fc_agg | apply fc_ta | apply fc_tup | exact fc_an | apply fc_ac | exact fc_tu | exact fc_nat | exact fc_bo | exact fc_none | apply fc_some | apply fc_pair | apply fc_row | apply fc_ef))); done)); (focus exact rfl); (focus exact rfl))) | (apply Br.mk <;> (intro hb; first | (exact absurd hb (by decide)) | exact Bool.noConfusion (hb.symm.trans (by assumption) : true = false) | exact Bool.noConfusion (hb.symm.trans (by assumption) : false = true) | (simp only [decide_eq_true_eq, decide_eq_false_iff_not, beq_iff_eq, bne_iff_ne, beq_eq_false_iff_ne, bne_eq_false_iff_eq, Bool.not_eq_true', Bool.not_eq_false', Int.not_lt, Int.not_le, ge_iff_le, gt_iff_lt, ne_eq, Classical.not_not] at hb; first | (exfalso; omega) | skip) | skip)) | (apply Gd.mk <;> (intro hb; first | (exact absurd hb (by decide)) | exact Bool.noConfusion (hb.symm.trans (by assumption) : true = false) | exact Bool.noConfusion (hb.symm.trans (by assumption) : false = true) | (simp only [decide_eq_true_eq, decide_eq_false_iff_not, beq_iff_eq, bne_iff_ne, beq_eq_false_iff_ne, bne_eq_false_iff_eq, Bool.not_eq_true', Bool.not_eq_false', Int.not_lt, Int.not_le, ge_iff_le, gt_iff_lt, ne_eq, Classical.not_not] at hb; first | (exfalso; omega) | skip) | skip)))); (all_goals (try (conv => whnf)))
  all_goals
    refine fin_pure rfl ?_
    simp only [mkRes, sx8]
    first
      | (rw [if_pos (by omega)]; done)
      | (rw [if_neg (by omega)]; done)
theorem a_1 (p : Nat) : (p : Int).tmod 384 = ((p % 384 : Nat) : Int) := by rw [tmod_pos (by omega)]; omega
theorem a_2 (p : Nat) : IntKind.u32.wrap (((p % 384 : Nat) : Int).tdiv 4) = ((p % 384 / 4 : Nat) : Int) := by rw [tdiv_pos (by omega), wu32 (by omega) (by omega)]; omega
def adA (p : Nat) : Nat := p % 384 / 4 * 4
theorem a_3 (p : Nat) : IntKind.u32.wrap (((p % 384 / 4 : Nat) : Int) * 4) = ((adA p : Nat) : Int) := by rw [wu32 (by omega) (by omega)]; unfold adA; omega
theorem adA_lt (p : Nat) : adA p ≤ 380 ∧ adA p % 4 = 0 := by unfold adA; omega
theorem memL_lt (ls : List Int) (j : Nat) : ∀ y ∈ memL ls j, y < 4294967296 := by
  intro y hy
  unfold memL at hy
  obtain ⟨i, _, rfl⟩ := List.mem_map.1 hy
  split
  · exact wdN_lt _ _ _
  · omega
theorem set_lt {xs : List Nat} (h : ∀ y ∈ xs, y < 4294967296) (j w : Nat) (hw : w < 4294967296) : ∀ y ∈ xs.set j w, y < 4294967296 := fun y hy => by
  rcases List.mem_or_eq_of_mem_set hy with h1 | h1
  · exact h y h1
  · omega
theorem vs35 : rvV 35 3 2 0 4 = true := by decide
theorem vl32 : rvV 32 4 2 0 4 = true := by decide
set_option maxHeartbeats 1500000 in
set_option maxRecDepth 1000000 in
theorem transfersfalse_fn (ls : List Int) (k a v : Nat) (hl : ls.length = k) (hk : k ≤ 9223372036854775807) (ha : a < 4294967296) (hv : v < 4294967296) :
    Fn Try.prog 10 [.s (.sl 0 0 k), .s (.int .u32 a), .s (.int .u32 v), .s (.bool false)] [⟨false, 1, isv .i64 ls⟩] (· = ⟨.a (.s (.bool true)), [], []⟩) := by
  have h121 : 0 + (121 : Int).toNat * 1 = 121 := rfl
  have q1 := a_1 a
  have q2 := a_2 a
  have q3 := a_3 a
  have hA := adA_lt a
  generalize adA a = A at *
  have v1 := vs35
  have v2 := vl32
  have c2 := encode_fn 35 3 2 0 4 (by omega) v1
  have c3 := encode_fn 32 4 2 0 4 (by omega) v2
  have l1 := enc_lt v1
  have l2 := enc_lt v2
  obtain ⟨w, hw⟩ : ∃ w : Nat, (w : Int) = encV 35 3 2 0 4 := ⟨(encV 35 3 2 0 4).toNat, by omega⟩
  obtain ⟨t, ht⟩ : ∃ t : Nat, (t : Int) = encV 32 4 2 0 4 := ⟨(encV 32 4 2 0 4).toNat, by omega⟩
  obtain ⟨d1, d2, d3, d4, d5, d6⟩ := dec_enc v1 hw
  obtain ⟨g1, g2, g3, g4, g5, g6⟩ := dec_enc v2 ht
  rw [← hw] at c2
  rw [← ht] at c3
  have hwl : w < 4294967296 := by omega
  have htl : t < 4294967296 := by omega
  have y1 := decode_ok w hwl d6
  have y2 := decode_ok t htl g6
  rw [d1, d2, d3, d4, d5] at y1
  rw [g1, g2, g3, g4, g5] at y2
  have c4 := placed_fn ls k 480 w hl hk (by omega) hwl
  have hml : ((memL ls 128).set (480 / 4) w).length = 128 := by rw [List.length_set, memL_len]
  have hg := set_get (memL ls 128) (480 / 4) w (by rw [memL_len]; omega)
  have hmt := set_lt (memL_lt ls 128) (480 / 4) w hwl
  generalize (memL ls 128).set (480 / 4) w = M at *
  have hrl := regsV_len ls
  have hrt := regsV_lt ls
  generalize regsV ls = rg at *
  obtain ⟨x0, x1, x2, x3, x4, x5, x6, x7, x8, x9, x10, x11, x12, x13, x14, x15, rfl⟩ := len16 hrl
  have hset := wsv_set M 121 t (by omega)
  have hM1l : (M.set 121 t).length = 128 := by rw [List.length_set, hml]
  have hM1a : (M.set 121 t).getD (480 / 4) 0 = w := by rw [set_other _ _ _ _ (by omega), hg]
  have hM1b : (M.set 121 t).getD (484 / 4) 0 = t := set_get M 121 t (by omega)
  have hM1t := set_lt hmt 121 t htl
  generalize M.set 121 t = M1 at *
  obtain ⟨B, hB⟩ : ∃ B : Nat, (B : Int) = ((A : Int) - 4) % 4294967296 := ⟨(((A : Int) - 4) % 4294967296).toNat, by omega⟩
  have f1 : IntKind.u32.wrap ((A : Int) - 4) = (B : Int) := by rw [wu32', hB]
  have f2 : IntKind.u32.wrap ((B : Int) + 4) = (A : Int) := by rw [wu32']; omega
  have hld4 : ld4 128 A = true := ld128 A (by omega) hA.2
  have hld1 : ld1 128 A = true := by unfold ld1 mpg; simp; omega
  obtain ⟨M2, hM2, hM2l, hM2t, hM2b, hval⟩ : ∃ M2 : List Nat, M1.set (A / 4) v = M2 ∧ M2.length = 128 ∧ (∀ y ∈ M2, y < 4294967296) ∧ M2.getD (484 / 4) 0 = t ∧ M2.getD (A / 4) 0 = v := by
    refine ⟨_, rfl, ?_, ?_, ?_, ?_⟩
    · rw [List.length_set, hM1l]
    · exact set_lt hM1t _ _ hv
    · rw [set_other _ _ _ _ (by omega), hM1b]
    · exact set_get M1 (A / 4) v (by omega)
  have k1 := store35_fn x0 x1 B v x4 x5 x6 x7 x8 x9 x10 x11 x12 x13 x14 x15 480 A [1, 0, 0, 0, 0, 0, 0, 0] M1 128 rfl rfl hM1l hM1t (by omega) (by omega) hld4 (by omega) f2
  rw [hM2] at k1
  have k2 := load32_fn x0 x1 B v x4 x5 x6 x7 x8 x9 x10 x11 x12 x13 x14 x15 484 A (v) [1, 0, 0, 0, 0, 0, 0, 0] M2 128 rfl rfl hM2l hM2t (by omega) (by omega) hld4 (by omega) f2 hval
  have c5 := exec_store _ 480 [1, 0, 0, 0, 0, 0, 0, 0] M1 M2 128 w 35 3 2 0 4 _ 484 [1, 0, 0, 0, 0, 0, 0, 0] rfl rfl rfl hM1l (by omega) (by omega) (ld128 480 (by omega) (by omega)) hM1a y1 (by omega) k1 rfl rfl
  have c6 := exec_load _ 484 [1, 0, 0, 0, 0, 0, 0, 0] M2 M2 128 t 32 4 2 0 4 _ 488 [1, 0, 0, 0, 0, 0, 0, 0] rfl rfl rfl hM2l (by omega) (by omega) (ld128 484 (by omega) (by omega)) hM2b y2 (by omega) k2 rfl rfl
  have hsM1 : allScal (wsv M1) = true := wsv_scal M1
  have hsM2 : allScal (wsv M2) = true := wsv_scal M2
  clear k1 k2 d1 d2 d3 d4 d5 d6 g1 g2 g3 g4 g5 g6 y1 y2 hw ht l1 l2 v1 v2
  refine fn_of_vc mixed tys_ok _ _ Try.func10 (by kernel_rfl) rfl Try.ntmps10 (by rw [Try.results10]) rfl ?_; dsimp only [argTm, argHl, Nat.zero_add, Nat.reduceAdd, List.length_nil, List.length_cons]
  (repeat' ((conv => whnf); first | (apply Br.mk <;> (intro hb; first | (exact absurd hb (by decide)) | exact Bool.noConfusion (hb.symm.trans (by assumption) : true = false) | exact Bool.noConfusion (hb.symm.trans (by assumption) : false = true) | (exfalso; revert hb; simp only [beq_self_eq_true, Bool.and_true, Bool.and_self, reduceCtorEq, false_implies, bne_self_eq_false, imp_false, not_true_eq_false, not_false_eq_true, Bool.true_eq_false, Bool.false_eq_true]; done) | (simp only [decide_eq_true_eq, decide_eq_false_iff_not, beq_iff_eq, bne_iff_ne, beq_eq_false_iff_ne, bne_eq_false_iff_eq, Bool.not_eq_true', Bool.not_eq_false', Int.not_lt, Int.not_le, ge_iff_le, gt_iff_lt, ne_eq, Classical.not_not] at hb; first | (exfalso; omega) | skip) | skip))  |  (apply Gd.mk <;> (intro hb; first | (exact absurd hb (by decide)) | exact Bool.noConfusion (hb.symm.trans (by assumption) : true = false) | exact Bool.noConfusion (hb.symm.trans (by assumption) : false = true) | (exfalso; revert hb; simp only [beq_self_eq_true, Bool.and_true, Bool.and_self, reduceCtorEq, false_implies, bne_self_eq_false, imp_false, not_true_eq_false, not_false_eq_true, Bool.true_eq_false, Bool.false_eq_true]; done) | (simp only [decide_eq_true_eq, decide_eq_false_iff_not, beq_iff_eq, bne_iff_ne, beq_eq_false_iff_ne, bne_eq_false_iff_eq, Bool.not_eq_true', Bool.not_eq_false', Int.not_lt, Int.not_le, ge_iff_le, gt_iff_lt, ne_eq, Classical.not_not] at hb; first | (exfalso; omega) | skip) | skip))  |  (refine Eqs.mk _ (eqt_ok _ _ rfl _ _ _ rfl) ?_)  |  ((with_reducible apply Vl.mk (α := Int)); · with_reducible first | exact q1 | exact q2 | exact q3 | exact f1 | exact f2)  |  (apply Sd.mk; · exact ⟨rfl, rfl, rfl, by show 121 + 1 ≤ (wsv M).length; rw [wsv_length, hml]; omega⟩)  |  ((with_reducible apply Vl.mk (α := Nat)); · exact h121)  |  ((with_reducible apply Vl.mk (α := List SV)); · with_reducible exact hset)  |  (refine vcall_pure (f := 25) (c2) rfl ?_)  |  (refine vcall_pure (f := 25) (c3) rfl ?_)  |  (refine vcall_det (f := 27) c4 [⟨0, 0⟩] [(0, ⟨false, 1, isv .i64 ls⟩)] rfl ⟨rfl, trivial⟩ ⟨rfl, rowM_ro (isv_scal _ _), trivial⟩ ⟨rfl, noUp⟩ ?_)  |  (refine vcall_det (f := 28) c5 [⟨_, 0⟩] [(_, ⟨true, 1, wsv M1⟩)] rfl ⟨rfl, trivial⟩ ⟨rfl, rowM_ro hsM1, trivial⟩ ⟨rfl, noUp⟩ ?_)  |  (refine vcall_det (f := 28) c6 [⟨_, 0⟩] [(_, ⟨true, 1, wsv M2⟩)] rfl ⟨rfl, trivial⟩ ⟨rfl, rowM_ro hsM2, trivial⟩ ⟨rfl, noUp⟩ ?_)  |  (refine vcall_pure (f := 18) (awake_fn) rfl ?_) | (with_reducible apply sd_draw; · kernel_rfl) | (apply Sd.mk; · first | exact rfl | trivial | omega | (repeat' apply And.intro) <;> first | exact rfl | exact Nat.le_of_ble_eq_true rfl | omega | decide) | ((with_reducible apply Vl.mk (α := Int)); · (first | (with_reducible exact bits_keep _ _ _ _) | ((rewrite [tdiv_pos]); (focus (first | exact wi64 (by omega) (by omega) | exact wu32 (by omega) (by omega) | exact wi32 (by omega) (by omega))); omega) | exact tmod_pos (by omega) | exact wi64 (by omega) (by omega) | exact wu32 (by omega) (by omega) | exact wu32' _ | exact wu8 (by omega) (by omega) | exact wu64 (by omega) (by omega) | exact wi32 (by omega) (by omega) | rfl)) | ((with_reducible apply Vl.mk (α := Bool)); · exact rfl) | (refine And.intro rfl ?_) | ((with_reducible apply Vl.mk (α := Nat)); · first | exact rfl) | ((with_reducible apply Vl.mk (α := List SV)); · (first | (exact setAll_eq rfl) | (apply fc_eq; ((repeat' (first | exact fc_ren (wsv_scal _) | exact fc_ren (by assumption) | ((conv => arg 1; whnf); first | exact fc_nil | apply fc_cons | exact fc_int | exact fc_bool | exact fc_n | exact fc_ns | exact fc_ptr | exact fc_sl | exact fc_str | exact fc_unk | exact fc_fn | apply fc_s | apply fc_agg | apply fc_ta | apply fc_tup | exact fc_an | apply fc_ac | exact fc_tu | exact fc_nat | exact fc_bo | exact fc_none | apply fc_some | apply fc_pair | apply fc_row | apply fc_ef))); done)) | (dsimp only [setAll, List.set_cons_zero, List.set_cons_succ, List.cons_append, List.nil_append]; exact rfl) | exact rfl)) | ((with_reducible apply Vl.mk (α := ByteArray)); · exact rfl) | ((with_reducible apply Vl.mk (α := Ef)); · first | (apply fc_eq; ((repeat' (first | exact fc_ren (wsv_scal _) | exact fc_ren (by assumption) | ((conv => arg 1; whnf); first | exact fc_nil | apply fc_cons | exact fc_int | exact fc_bool | exact fc_n | exact fc_ns | exact fc_ptr | exact fc_sl | exact fc_str | exact fc_unk | exact fc_fn | apply fc_s | apply fc_agg | apply fc_ta | apply fc_tup | exact fc_an | apply fc_ac | exact fc_tu | exact fc_nat | exact fc_bo | exact fc_none | apply fc_some | apply fc_pair | apply fc_row | apply fc_ef))); done)) | ((dsimp only [Res.ef, renT, renA, renS, renN, nwN, upN, renRow, List.map_cons, List.map_nil, List.length_cons, List.length_nil]); first | done | exact rfl)) | ((with_reducible apply Ge.mk (α := Row)); · exact rfl) | ((with_reducible apply Ge.mk (α := SV)); · first | exact rfl) | ((with_reducible apply Ge.mk (α := AV)); · first | exact rfl) | ((with_reducible apply Ge.mk (α := List SV)); · (apply fc_eq; (conv => arg 1; whnf); apply fc_some; ((repeat' (first | exact fc_ren (wsv_scal _) | exact fc_ren (by assumption) | ((conv => arg 1; whnf); first | exact fc_nil | apply fc_cons | exact fc_int | exact fc_bool | exact fc_n | exact fc_ns | exact fc_ptr | exact fc_sl | exact fc_str | exact fc_unk | exact fc_fn | apply fc_s | apply fc_agg | apply fc_ta | apply fc_tup | exact fc_an | apply fc_ac | exact fc_tu | exact fc_nat | exact fc_bo | exact fc_none | apply fc_some | apply fc_pair | apply fc_row | apply fc_ef))); done))) | ((with_reducible apply Vl.mk (α := TV)); · first | (apply fc_eq; ((repeat' (first | exact fc_ren (wsv_scal _) | exact fc_ren (by assumption) | ((conv => arg 1; whnf); first | exact fc_nil | apply fc_cons | exact fc_int | exact fc_bool | exact fc_n | exact fc_ns | exact fc_ptr | exact fc_sl | exact fc_str | exact fc_unk | exact fc_fn | apply fc_s | apply fc_agg | apply fc_ta | apply fc_tup | exact fc_an | apply fc_ac | exact fc_tu | exact fc_nat | exact fc_bo | exact fc_none | apply fc_some | apply fc_pair | apply fc_row | apply fc_ef))); done)) | exact rfl) | (apply Sg.mk; · first | exact sg_all _ rfl | (apply sg_fc; (focus ((repeat' (first | exact fc_ren (wsv_scal _) | exact fc_ren (by assumption) | ((conv => arg 1; whnf); first | exact fc_nil | apply fc_cons | exact fc_int | exact fc_bool | exact fc_n | exact fc_ns | exact fc_ptr | exact fc_sl | exact fc_str | exact fc_unk | exact fc_fn | apply fc_s | apply fc_agg | apply fc_ta | apply fc_tup | exact fc_an | apply fc_ac | exact fc_tu | exact fc_nat | exact fc_bo | exact fc_none | apply fc_some | apply fc_pair | apply fc_row | apply fc_ef))); done)); (focus exact rfl))) | (apply Sk.mk; · first | exact sk_all _ rfl rfl | (apply sk_fc; (focus ((repeat' (first | exact fc_ren (wsv_scal _) | exact fc_ren (by assumption) | ((conv => arg 1; whnf); first | exact fc_nil | apply fc_cons | exact fc_int | exact fc_bool | exact fc_n | exact fc_ns | exact fc_ptr | exact fc_sl | exact fc_str | exact fc_unk | exact fc_fn | apply fc_s | apply fc_agg | apply fc_ta | apply fc_tup | exact fc_an | apply fc_ac | exact fc_tu | exact fc_nat | exact fc_bo | exact fc_none | apply fc_some | apply fc_pair | apply fc_row | apply fc_ef))); done)); (focus exact rfl); (focus exact rfl))) | (apply Br.mk <;> (intro hb; first | (exact absurd hb (by decide)) | exact Bool.noConfusion (hb.symm.trans (by assumption) : true = false) | exact Bool.noConfusion (hb.symm.trans (by assumption) : false = true) | (simp only [decide_eq_true_eq, decide_eq_false_iff_not, beq_iff_eq, bne_iff_ne, beq_eq_false_iff_ne, bne_eq_false_iff_eq, Bool.not_eq_true', Bool.not_eq_false', Int.not_lt, Int.not_le, ge_iff_le, gt_iff_lt, ne_eq, Classical.not_not] at hb; first | (exfalso; omega) | skip) | skip)) | (apply Gd.mk <;> (intro hb; first | (exact absurd hb (by decide)) | exact Bool.noConfusion (hb.symm.trans (by assumption) : true = false) | exact Bool.noConfusion (hb.symm.trans (by assumption) : false = true) | (simp only [decide_eq_true_eq, decide_eq_false_iff_not, beq_iff_eq, bne_iff_ne, beq_eq_false_iff_ne, bne_eq_false_iff_eq, Bool.not_eq_true', Bool.not_eq_false', Int.not_lt, Int.not_le, ge_iff_le, gt_iff_lt, ne_eq, Classical.not_not] at hb; first | (exfalso; omega) | skip) | skip)))); (all_goals (try (conv => whnf)))
  all_goals first
    | (refine fin_ro1 rfl (isv_scal _ _) rfl rfl)
    | trace_state
theorem vs36 : rvV 36 3 2 0 4 = true := by decide
theorem vl33 : rvV 33 4 2 0 4 = true := by decide
set_option maxHeartbeats 1500000 in
set_option maxRecDepth 1000000 in
theorem transferstrue_fn (ls : List Int) (k a v : Nat) (hl : ls.length = k) (hk : k ≤ 9223372036854775807) (ha : a < 4294967296) (hv : v < 4294967296) :
    Fn Try.prog 10 [.s (.sl 0 0 k), .s (.int .u32 a), .s (.int .u32 v), .s (.bool true)] [⟨false, 1, isv .i64 ls⟩] (· = ⟨.a (.s (.bool true)), [], []⟩) := by
  have h121 : 0 + (121 : Int).toNat * 1 = 121 := rfl
  have q1 := a_1 a
  have q2 := a_2 a
  have q3 := a_3 a
  have hA := adA_lt a
  generalize adA a = A at *
  have v1 := vs36
  have v2 := vl33
  have c2 := encode_fn 36 3 2 0 4 (by omega) v1
  have c3 := encode_fn 33 4 2 0 4 (by omega) v2
  have l1 := enc_lt v1
  have l2 := enc_lt v2
  obtain ⟨w, hw⟩ : ∃ w : Nat, (w : Int) = encV 36 3 2 0 4 := ⟨(encV 36 3 2 0 4).toNat, by omega⟩
  obtain ⟨t, ht⟩ : ∃ t : Nat, (t : Int) = encV 33 4 2 0 4 := ⟨(encV 33 4 2 0 4).toNat, by omega⟩
  obtain ⟨d1, d2, d3, d4, d5, d6⟩ := dec_enc v1 hw
  obtain ⟨g1, g2, g3, g4, g5, g6⟩ := dec_enc v2 ht
  rw [← hw] at c2
  rw [← ht] at c3
  have hwl : w < 4294967296 := by omega
  have htl : t < 4294967296 := by omega
  have y1 := decode_ok w hwl d6
  have y2 := decode_ok t htl g6
  rw [d1, d2, d3, d4, d5] at y1
  rw [g1, g2, g3, g4, g5] at y2
  have c4 := placed_fn ls k 480 w hl hk (by omega) hwl
  have hml : ((memL ls 128).set (480 / 4) w).length = 128 := by rw [List.length_set, memL_len]
  have hg := set_get (memL ls 128) (480 / 4) w (by rw [memL_len]; omega)
  have hmt := set_lt (memL_lt ls 128) (480 / 4) w hwl
  generalize (memL ls 128).set (480 / 4) w = M at *
  have hrl := regsV_len ls
  have hrt := regsV_lt ls
  generalize regsV ls = rg at *
  obtain ⟨x0, x1, x2, x3, x4, x5, x6, x7, x8, x9, x10, x11, x12, x13, x14, x15, rfl⟩ := len16 hrl
  have hset := wsv_set M 121 t (by omega)
  have hM1l : (M.set 121 t).length = 128 := by rw [List.length_set, hml]
  have hM1a : (M.set 121 t).getD (480 / 4) 0 = w := by rw [set_other _ _ _ _ (by omega), hg]
  have hM1b : (M.set 121 t).getD (484 / 4) 0 = t := set_get M 121 t (by omega)
  have hM1t := set_lt hmt 121 t htl
  generalize M.set 121 t = M1 at *
  obtain ⟨B, hB⟩ : ∃ B : Nat, (B : Int) = ((A : Int) - 4) % 4294967296 := ⟨(((A : Int) - 4) % 4294967296).toNat, by omega⟩
  have f1 : IntKind.u32.wrap ((A : Int) - 4) = (B : Int) := by rw [wu32', hB]
  have f2 : IntKind.u32.wrap ((B : Int) + 4) = (A : Int) := by rw [wu32']; omega
  have hld4 : ld4 128 A = true := ld128 A (by omega) hA.2
  have hld1 : ld1 128 A = true := by unfold ld1 mpg; simp; omega
  obtain ⟨M2, hM2, hM2l, hM2t, hM2b, hval⟩ : ∃ M2 : List Nat, put1 M1 A v = M2 ∧ M2.length = 128 ∧ (∀ y ∈ M2, y < 4294967296) ∧ M2.getD (484 / 4) 0 = t ∧ sx8 (byN (M2.getD (A / 4) 0) A) = sx8 v := by
    refine ⟨_, rfl, ?_, ?_, ?_, ?_⟩
    · unfold put1; rw [List.length_set, hM1l]
    · exact set_lt hM1t _ _ (sfN_lt _ _ _)
    · unfold put1; rw [set_other _ _ _ _ (by omega), hM1b]
    · unfold put1
      rw [set_get _ _ _ (by omega), hA.2, Nat.zero_mul]
      have hs := sf_low (M1.getD (A / 4) 0) v (xs_lt hM1t _) hv
      have e : byN (sfN (M1.getD (A / 4) 0) 0 v) A = v % 256 := by
        unfold byN
        rw [hA.2, Nat.zero_mul, Nat.pow_zero, Nat.div_one]
        exact hs
      rw [e]; unfold sx8; rw [Nat.mod_mod]
  have k1 := store36_fn x0 x1 B v x4 x5 x6 x7 x8 x9 x10 x11 x12 x13 x14 x15 480 A [1, 0, 0, 0, 0, 0, 0, 0] M1 128 rfl rfl hM1l hM1t (by omega) (by omega) hld1 (by omega) f2
  rw [hM2] at k1
  have k2 := load33_fn x0 x1 B v x4 x5 x6 x7 x8 x9 x10 x11 x12 x13 x14 x15 484 A (sx8 v) [1, 0, 0, 0, 0, 0, 0, 0] M2 128 rfl rfl hM2l hM2t (by omega) (by omega) hld1 (by omega) f2 hval
  have c5 := exec_store _ 480 [1, 0, 0, 0, 0, 0, 0, 0] M1 M2 128 w 36 3 2 0 4 _ 484 [1, 0, 0, 0, 0, 0, 0, 0] rfl rfl rfl hM1l (by omega) (by omega) (ld128 480 (by omega) (by omega)) hM1a y1 (by omega) k1 rfl rfl
  have c6 := exec_load _ 484 [1, 0, 0, 0, 0, 0, 0, 0] M2 M2 128 t 33 4 2 0 4 _ 488 [1, 0, 0, 0, 0, 0, 0, 0] rfl rfl rfl hM2l (by omega) (by omega) (ld128 484 (by omega) (by omega)) hM2b y2 (by omega) k2 rfl rfl
  have hsM1 : allScal (wsv M1) = true := wsv_scal M1
  have hsM2 : allScal (wsv M2) = true := wsv_scal M2
  have hsx := rsx8_fn v hv
  generalize sx8 v = V at *
  clear k1 k2 d1 d2 d3 d4 d5 d6 g1 g2 g3 g4 g5 g6 y1 y2 hw ht l1 l2 v1 v2
  refine fn_of_vc mixed tys_ok _ _ Try.func10 (by kernel_rfl) rfl Try.ntmps10 (by rw [Try.results10]) rfl ?_; dsimp only [argTm, argHl, Nat.zero_add, Nat.reduceAdd, List.length_nil, List.length_cons]
  (repeat' ((conv => whnf); first | (apply Br.mk <;> (intro hb; first | (exact absurd hb (by decide)) | exact Bool.noConfusion (hb.symm.trans (by assumption) : true = false) | exact Bool.noConfusion (hb.symm.trans (by assumption) : false = true) | (exfalso; revert hb; simp only [beq_self_eq_true, Bool.and_true, Bool.and_self, reduceCtorEq, false_implies, bne_self_eq_false, imp_false, not_true_eq_false, not_false_eq_true, Bool.true_eq_false, Bool.false_eq_true]; done) | (simp only [decide_eq_true_eq, decide_eq_false_iff_not, beq_iff_eq, bne_iff_ne, beq_eq_false_iff_ne, bne_eq_false_iff_eq, Bool.not_eq_true', Bool.not_eq_false', Int.not_lt, Int.not_le, ge_iff_le, gt_iff_lt, ne_eq, Classical.not_not] at hb; first | (exfalso; omega) | skip) | skip))  |  (apply Gd.mk <;> (intro hb; first | (exact absurd hb (by decide)) | exact Bool.noConfusion (hb.symm.trans (by assumption) : true = false) | exact Bool.noConfusion (hb.symm.trans (by assumption) : false = true) | (exfalso; revert hb; simp only [beq_self_eq_true, Bool.and_true, Bool.and_self, reduceCtorEq, false_implies, bne_self_eq_false, imp_false, not_true_eq_false, not_false_eq_true, Bool.true_eq_false, Bool.false_eq_true]; done) | (simp only [decide_eq_true_eq, decide_eq_false_iff_not, beq_iff_eq, bne_iff_ne, beq_eq_false_iff_ne, bne_eq_false_iff_eq, Bool.not_eq_true', Bool.not_eq_false', Int.not_lt, Int.not_le, ge_iff_le, gt_iff_lt, ne_eq, Classical.not_not] at hb; first | (exfalso; omega) | skip) | skip))  |  (refine Eqs.mk _ (eqt_ok _ _ rfl _ _ _ rfl) ?_)  |  ((with_reducible apply Vl.mk (α := Int)); · with_reducible first | exact q1 | exact q2 | exact q3 | exact f1 | exact f2)  |  (apply Sd.mk; · exact ⟨rfl, rfl, rfl, by show 121 + 1 ≤ (wsv M).length; rw [wsv_length, hml]; omega⟩)  |  ((with_reducible apply Vl.mk (α := Nat)); · exact h121)  |  ((with_reducible apply Vl.mk (α := List SV)); · with_reducible exact hset)  |  (refine vcall_pure (f := 25) (c2) rfl ?_)  |  (refine vcall_pure (f := 25) (c3) rfl ?_)  |  (refine vcall_det (f := 27) c4 [⟨0, 0⟩] [(0, ⟨false, 1, isv .i64 ls⟩)] rfl ⟨rfl, trivial⟩ ⟨rfl, rowM_ro (isv_scal _ _), trivial⟩ ⟨rfl, noUp⟩ ?_)  |  (refine vcall_det (f := 28) c5 [⟨_, 0⟩] [(_, ⟨true, 1, wsv M1⟩)] rfl ⟨rfl, trivial⟩ ⟨rfl, rowM_ro hsM1, trivial⟩ ⟨rfl, noUp⟩ ?_)  |  (refine vcall_det (f := 28) c6 [⟨_, 0⟩] [(_, ⟨true, 1, wsv M2⟩)] rfl ⟨rfl, trivial⟩ ⟨rfl, rowM_ro hsM2, trivial⟩ ⟨rfl, noUp⟩ ?_)  |  (refine vcall_pure (f := 33) (hsx) rfl ?_)  |  (refine vcall_pure (f := 18) (awake_fn) rfl ?_) | (with_reducible apply sd_draw; · kernel_rfl) | (apply Sd.mk; · first | exact rfl | trivial | omega | (repeat' apply And.intro) <;> first | exact rfl | exact Nat.le_of_ble_eq_true rfl | omega | decide) | ((with_reducible apply Vl.mk (α := Int)); · (first | (with_reducible exact bits_keep _ _ _ _) | ((rewrite [tdiv_pos]); (focus (first | exact wi64 (by omega) (by omega) | exact wu32 (by omega) (by omega) | exact wi32 (by omega) (by omega))); omega) | exact tmod_pos (by omega) | exact wi64 (by omega) (by omega) | exact wu32 (by omega) (by omega) | exact wu32' _ | exact wu8 (by omega) (by omega) | exact wu64 (by omega) (by omega) | exact wi32 (by omega) (by omega) | rfl)) | ((with_reducible apply Vl.mk (α := Bool)); · exact rfl) | (refine And.intro rfl ?_) | ((with_reducible apply Vl.mk (α := Nat)); · first | exact rfl) | ((with_reducible apply Vl.mk (α := List SV)); · (first | (exact setAll_eq rfl) | (apply fc_eq; ((repeat' (first | exact fc_ren (wsv_scal _) | exact fc_ren (by assumption) | ((conv => arg 1; whnf); first | exact fc_nil | apply fc_cons | exact fc_int | exact fc_bool | exact fc_n | exact fc_ns | exact fc_ptr | exact fc_sl | exact fc_str | exact fc_unk | exact fc_fn | apply fc_s | apply fc_agg | apply fc_ta | apply fc_tup | exact fc_an | apply fc_ac | exact fc_tu | exact fc_nat | exact fc_bo | exact fc_none | apply fc_some | apply fc_pair | apply fc_row | apply fc_ef))); done)) | (dsimp only [setAll, List.set_cons_zero, List.set_cons_succ, List.cons_append, List.nil_append]; exact rfl) | exact rfl)) | ((with_reducible apply Vl.mk (α := ByteArray)); · exact rfl) | ((with_reducible apply Vl.mk (α := Ef)); · first | (apply fc_eq; ((repeat' (first | exact fc_ren (wsv_scal _) | exact fc_ren (by assumption) | ((conv => arg 1; whnf); first | exact fc_nil | apply fc_cons | exact fc_int | exact fc_bool | exact fc_n | exact fc_ns | exact fc_ptr | exact fc_sl | exact fc_str | exact fc_unk | exact fc_fn | apply fc_s | apply fc_agg | apply fc_ta | apply fc_tup | exact fc_an | apply fc_ac | exact fc_tu | exact fc_nat | exact fc_bo | exact fc_none | apply fc_some | apply fc_pair | apply fc_row | apply fc_ef))); done)) | ((dsimp only [Res.ef, renT, renA, renS, renN, nwN, upN, renRow, List.map_cons, List.map_nil, List.length_cons, List.length_nil]); first | done | exact rfl)) | ((with_reducible apply Ge.mk (α := Row)); · exact rfl) | ((with_reducible apply Ge.mk (α := SV)); · first | exact rfl) | ((with_reducible apply Ge.mk (α := AV)); · first | exact rfl) | ((with_reducible apply Ge.mk (α := List SV)); · (apply fc_eq; (conv => arg 1; whnf); apply fc_some; ((repeat' (first | exact fc_ren (wsv_scal _) | exact fc_ren (by assumption) | ((conv => arg 1; whnf); first | exact fc_nil | apply fc_cons | exact fc_int | exact fc_bool | exact fc_n | exact fc_ns | exact fc_ptr | exact fc_sl | exact fc_str | exact fc_unk | exact fc_fn | apply fc_s | apply fc_agg | apply fc_ta | apply fc_tup | exact fc_an | apply fc_ac | exact fc_tu | exact fc_nat | exact fc_bo | exact fc_none | apply fc_some | apply fc_pair | apply fc_row | apply fc_ef))); done))) | ((with_reducible apply Vl.mk (α := TV)); · first | (apply fc_eq; ((repeat' (first | exact fc_ren (wsv_scal _) | exact fc_ren (by assumption) | ((conv => arg 1; whnf); first | exact fc_nil | apply fc_cons | exact fc_int | exact fc_bool | exact fc_n | exact fc_ns | exact fc_ptr | exact fc_sl | exact fc_str | exact fc_unk | exact fc_fn | apply fc_s | apply fc_agg | apply fc_ta | apply fc_tup | exact fc_an | apply fc_ac | exact fc_tu | exact fc_nat | exact fc_bo | exact fc_none | apply fc_some | apply fc_pair | apply fc_row | apply fc_ef))); done)) | exact rfl) | (apply Sg.mk; · first | exact sg_all _ rfl | (apply sg_fc; (focus ((repeat' (first | exact fc_ren (wsv_scal _) | exact fc_ren (by assumption) | ((conv => arg 1; whnf); first | exact fc_nil | apply fc_cons | exact fc_int | exact fc_bool | exact fc_n | exact fc_ns | exact fc_ptr | exact fc_sl | exact fc_str | exact fc_unk | exact fc_fn | apply fc_s | apply fc_agg | apply fc_ta | apply fc_tup | exact fc_an | apply fc_ac | exact fc_tu | exact fc_nat | exact fc_bo | exact fc_none | apply fc_some | apply fc_pair | apply fc_row | apply fc_ef))); done)); (focus exact rfl))) | (apply Sk.mk; · first | exact sk_all _ rfl rfl | (apply sk_fc; (focus ((repeat' (first | exact fc_ren (wsv_scal _) | exact fc_ren (by assumption) | ((conv => arg 1; whnf); first | exact fc_nil | apply fc_cons | exact fc_int | exact fc_bool | exact fc_n | exact fc_ns | exact fc_ptr | exact fc_sl | exact fc_str | exact fc_unk | exact fc_fn | apply fc_s | apply fc_agg | apply fc_ta | apply fc_tup | exact fc_an | apply fc_ac | exact fc_tu | exact fc_nat | exact fc_bo | exact fc_none | apply fc_some | apply fc_pair | apply fc_row | apply fc_ef))); done)); (focus exact rfl); (focus exact rfl))) | (apply Br.mk <;> (intro hb; first | (exact absurd hb (by decide)) | exact Bool.noConfusion (hb.symm.trans (by assumption) : true = false) | exact Bool.noConfusion (hb.symm.trans (by assumption) : false = true) | (simp only [decide_eq_true_eq, decide_eq_false_iff_not, beq_iff_eq, bne_iff_ne, beq_eq_false_iff_ne, bne_eq_false_iff_eq, Bool.not_eq_true', Bool.not_eq_false', Int.not_lt, Int.not_le, ge_iff_le, gt_iff_lt, ne_eq, Classical.not_not] at hb; first | (exfalso; omega) | skip) | skip)) | (apply Gd.mk <;> (intro hb; first | (exact absurd hb (by decide)) | exact Bool.noConfusion (hb.symm.trans (by assumption) : true = false) | exact Bool.noConfusion (hb.symm.trans (by assumption) : false = true) | (simp only [decide_eq_true_eq, decide_eq_false_iff_not, beq_iff_eq, bne_iff_ne, beq_eq_false_iff_ne, bne_eq_false_iff_eq, Bool.not_eq_true', Bool.not_eq_false', Int.not_lt, Int.not_le, ge_iff_le, gt_iff_lt, ne_eq, Classical.not_not] at hb; first | (exfalso; omega) | skip) | skip)))); (all_goals (try (conv => whnf)))
  all_goals first
    | (refine fin_ro1 rfl (isv_scal _ _) rfl rfl)
    | trace_state
end Go.Proofs.Ytckdamhnmcmbbaa
