/- Decoding by the reference, of any word. -/
import Derived.Test.YtppjiheebpabjaaEncB
namespace Go.Proofs.Ytppjiheebpabjaa
open Go Go.RowKit
set_option linter.unusedSimpArgs false
set_option linter.unusedVariables false

theorem e_op (w : Nat) (hw : w < 4294967296) : IntKind.i64.wrap ((w : Int) / 2 ^ min (Int.toNat 24) IntKind.u32.bits) = dOp w := by
  rw [show (2 : Int) ^ min (Int.toNat 24) IntKind.u32.bits = 16777216 from rfl, wi64 (by omega) (by omega)]
  unfold dOp; simp only [Nat.reducePow]; omega
theorem e_a (w : Nat) (hw : w < 4294967296) : bits .and .u32 ((w : Int) / 2 ^ min (Int.toNat 20) IntKind.u32.bits) 15 = dA w := field_and w 20 4 hw (by omega) (by omega)
theorem e_b (w : Nat) (hw : w < 4294967296) : bits .and .u32 ((w : Int) / 2 ^ min (Int.toNat 16) IntKind.u32.bits) 15 = dB w := field_and w 16 4 hw (by omega) (by omega)
theorem e_i (w : Nat) (hw : w < 4294967296) : bits .and .u32 (w : Int) 65535 = ((dI w : Nat) : Int) := by
  have := and_mask w 16 hw (by omega)
  unfold dI
  rw [Nat.pow_zero, Nat.div_one]; exact this
theorem e_keep (w : Int) (l : Int) : w / 2 ^ min l.toNat IntKind.u32.bits = w / 2 ^ min l.toNat IntKind.u32.bits := rfl
theorem e_sx (x : Nat) (hx : x < 65536) : IntKind.i32.wrap (IntKind.i16.wrap (x : Int)) = sx x := by
  have e : IntKind.i16.wrap (x : Int) = sx x := by
    unfold IntKind.wrap sx
    simp only [IntKind.signed, IntKind.bits, Bool.true_and, decide_eq_true_eq]
    by_cases h : x < 32768
    · rw [if_pos h, if_neg (by simp; omega)]; omega
    · rw [if_neg h, if_pos (by simp; omega)]; omega
  rw [e]
  have : -32768 ≤ sx x ∧ sx x ≤ 32767 := by unfold sx; split <;> omega
  exact wi32 (by omega) (by omega)
theorem form_rng9 (o : Int) : 0 ≤ formV o ∧ formV o ≤ 9 := by
  unfold formV
  repeat' split
  all_goals omega
theorem form_none (o : Int) (h : formV o = 0) : useOk o = false := by
  unfold useOk useA
  rw [Bool.or_eq_false_iff, decide_eq_false_iff_not, decide_eq_false_iff_not]
  unfold formV at h
  constructor
  · intro h1
    repeat' split at h
    all_goals omega
  · intro h1
    repeat' split at h
    all_goals omega
/-- What is decoded may be exactly if both say so. -/
theorem rv_dok (w : Nat) (hw : w < 4294967296) (hF : formV (dOp w) ≠ 0) : rvV (dOp w) (dA w) (dB w) (dC w) (dM w) = dOk w := by
  have ho := form_rng hF
  obtain ⟨u0, u1, u2, u3, u4, u5⟩ := form_use (dOp w).toNat (by omega) (by rw [Int.toNat_of_nonneg (by omega)]; exact hF)
  rw [Int.toNat_of_nonneg (by omega)] at u0 u1 u2 u3 u4 u5
  have ha : 0 ≤ dA w ∧ dA w ≤ 15 := by unfold dA; simp only [Nat.reducePow]; omega
  have hb : 0 ≤ dB w ∧ dB w ≤ 15 := by unfold dB; simp only [Nat.reducePow]; omega
  have hc0 : 0 ≤ dC w := by unfold dC; split <;> omega
  have hcz : formV (dOp w) ≠ 2 → dC w = 0 := fun h => by unfold dC; rw [u3, if_neg (by simp [h])]
  have hr := form_rng9 (dOp w)
  unfold rvV dOk validB
  rw [u0, u1, u2, u3, u4, u5, Bool.true_and, Bool.eq_iff_iff]
  generalize formV (dOp w) = F at *
  generalize dA w = a at *
  generalize dB w = b at *
  generalize dC w = c at *
  generalize dM w = m at *
  generalize loV F = lo at *
  generalize hiV F = hi at *
  clear u0 u1 u2 u3 u4 u5
  have hcs : F = 1 ∨ F = 2 ∨ (3 ≤ F ∧ F ≤ 5) ∨ 6 ≤ F := by omega
  simp only [Bool.and_eq_true, decide_eq_true_eq, Bool.true_and]
  rcases hcs with h | h | h | h
  · subst h
    have := hcz (by omega)
    subst this
    simp only [show ((1 : Int) == 1) = true from rfl, show ((1 : Int) == 2) = false from rfl, Bool.not_true, regB, beq_iff_eq, show decide ((2 : Int) ≤ 1 ∧ (1 : Int) ≤ 5) = false from rfl, Decidable.imp_iff_not_or, true_or, or_true, true_and, and_true, not_true_eq_false, false_or]
    omega
  · subst h
    simp only [show ((2 : Int) == 1) = false from rfl, show ((2 : Int) == 2) = true from rfl, Bool.not_false, regB, Bool.and_eq_true, decide_eq_true_eq, show decide ((2 : Int) ≤ 2 ∧ (2 : Int) ≤ 5) = true from rfl, Decidable.imp_iff_not_or, true_or, or_true, true_and, and_true, not_true_eq_false, false_or]
    omega
  · have := hcz (by omega)
    subst this
    have e1 : (F == 1) = false := by simp; omega
    have e2 : (F == 2) = false := by simp; omega
    have e3 : decide ((2 : Int) ≤ F ∧ F ≤ 5) = true := decide_eq_true (by omega)
    simp only [e1, e2, e3, Bool.not_false, regB, Bool.and_eq_true, decide_eq_true_eq, beq_iff_eq, Decidable.imp_iff_not_or, true_or, or_true, true_and, and_true, not_true_eq_false, false_or]
    omega
  · have := hcz (by omega)
    subst this
    have e1 : (F == 1) = false := by simp; omega
    have e2 : (F == 2) = false := by simp; omega
    have e3 : decide ((2 : Int) ≤ F ∧ F ≤ 5) = false := decide_eq_false (by omega)
    simp only [e1, e2, e3, Bool.not_false, regB, Bool.and_eq_true, decide_eq_true_eq, beq_iff_eq, Decidable.imp_iff_not_or, true_or, or_true, true_and, and_true, not_true_eq_false, false_or]
    omega
set_option maxHeartbeats 1000000 in
set_option maxRecDepth 100000 in
theorem rdec_fn (w : Nat) (hw : w < 4294967296) : Fn Try.prog 39 [.s (.int .u32 w)] [] (· = ⟨.tup [.agg (iv (kz (dOk w) (dOp w)) (kz (dOk w) (dA w)) (kz (dOk w) (dB w)) (kz (dOk w) (dC w)) (kz (dOk w) (dM w))), .s (.bool (dOk w))], [], []⟩) := by
  have hf := form_fn (dOp w)
  have w1 := e_op w hw
  have w2 := e_a w hw
  have w3 := e_b w hw
  have w4 := e_i w hw
  have ha : 0 ≤ dA w ∧ dA w ≤ 15 := by unfold dA; simp only [Nat.reducePow]; omega
  have hb0 : 0 ≤ dB w ∧ dB w ≤ 15 := by unfold dB; simp only [Nat.reducePow]; omega
  have w5 : IntKind.i64.wrap (dA w) = dA w := wi64 (by omega) (by omega)
  have w6 : IntKind.i64.wrap (dB w) = dB w := wi64 (by omega) (by omega)
  have hIl : dI w < 65536 := by unfold dI; simp only [Nat.reducePow]; omega
  by_cases hF : formV (dOp w) = 0
  · have hd : dOk w = false := by unfold dOk; rw [form_none _ hF]; rfl
    rw [hF] at hf
    rw [hd]
    generalize dOp w = o at *
    generalize dA w = a at *
    generalize dB w = b at *
    refine fn_of_vc mixed tys_ok _ _ Try.func39 (by kernel_rfl) rfl Try.ntmps39 (by rw [Try.results39]) rfl ?_; dsimp only [argTm, argHl, Nat.zero_add, Nat.reduceAdd, List.length_nil, List.length_cons]
    (repeat' ((conv => whnf); first | ((with_reducible apply Vl.mk (α := Int)); · with_reducible first | exact e_keep _ _ | exact w1 | exact w2 | exact w3 | exact w4 | exact w5 | exact w6)  |  (refine vcall_pure (f := 44) (hf) rfl ?_) | (with_reducible apply sd_draw; · kernel_rfl) | (apply Sd.mk; · first | exact rfl | trivial | omega | (repeat' apply And.intro) <;> first | exact rfl | exact Nat.le_of_ble_eq_true rfl | omega | decide) | ((with_reducible apply Vl.mk (α := Int)); · (first | (with_reducible exact bits_keep _ _ _ _) | ((rewrite [tdiv_pos]); (focus (first | exact wi64 (by omega) (by omega) | exact wu32 (by omega) (by omega) | exact wi32 (by omega) (by omega))); omega) | exact tmod_pos (by omega) | exact wi64 (by omega) (by omega) | exact wu32 (by omega) (by omega) | exact wu32' _ | exact wu8 (by omega) (by omega) | exact wu64 (by omega) (by omega) | exact wi32 (by omega) (by omega) | rfl)) | ((with_reducible first | apply Vl.mk (α := Bool) | apply Vl.mk (α := Nat) | apply Vl.mk (α := ByteArray) | apply Ge.mk (α := Row) | apply Ge.mk (α := SV) | apply Ge.mk (α := AV)); · exact rfl) | (refine And.intro rfl ?_) | ((with_reducible first | apply Vl.mk (α := List SV) | apply Vl.mk (α := Ef) | apply Vl.mk (α := TV) | apply Ge.mk (α := List SV) | apply Sg.mk | apply Sk.mk); · (first | exact setAll_eq rfl | exact sg_all _ rfl | exact sk_all _ rfl rfl | ((first | apply sg_fc | apply sk_fc | (apply fc_eq; (conv => arg 1; whnf); apply fc_some) | apply fc_eq); (repeat' (first | exact fc_ren (wsv_scal _) | exact fc_ren (by assumption) | ((conv => arg 1; whnf); first | exact fc_nil | apply fc_cons | exact fc_int | exact fc_bool | exact fc_n | exact fc_ns | exact fc_ptr | exact fc_sl | exact fc_str | exact fc_unk | exact fc_fn | apply fc_s | apply fc_agg | apply fc_ta | apply fc_tup | exact fc_an | apply fc_ac | exact fc_tu | exact fc_nat | exact fc_bo | exact fc_none | apply fc_some | apply fc_pair | apply fc_row | apply fc_ef))); (all_goals exact rfl)) | ((dsimp only [Res.ef, renT, renA, renS, renN, nwN, upN, renRow, List.map_cons, List.map_nil, List.length_cons, List.length_nil]); first | done | exact rfl) | (dsimp only [setAll, List.set_cons_zero, List.set_cons_succ, List.cons_append, List.nil_append]; exact rfl) | exact rfl)) | ((first | apply Br.mk | apply Gd.mk) <;> (intro hb; first | (exact absurd hb (by decide)) | exact Bool.noConfusion (hb.symm.trans (by assumption) : true = false) | exact Bool.noConfusion (hb.symm.trans (by assumption) : false = true) | (simp only [decide_eq_true_eq, decide_eq_false_iff_not, beq_iff_eq, bne_iff_ne, beq_eq_false_iff_ne, bne_eq_false_iff_eq, Bool.not_eq_true', Bool.not_eq_false', Int.not_lt, Int.not_le, ge_iff_le, gt_iff_lt, ne_eq, Classical.not_not] at hb; first | (exfalso; omega) | skip) | skip)))); (all_goals (try (conv => whnf)))
    all_goals first | exact fin_pure rfl rfl | trace_state
  · have ho := form_rng hF
    obtain ⟨u0, u1, u2, u3, u4, u5⟩ := form_use (dOp w).toNat (by omega) (by rw [Int.toNat_of_nonneg (by omega)]; exact hF)
    rw [Int.toNat_of_nonneg (by omega)] at u3 u4
    have hm : -32768 ≤ dM w ∧ dM w ≤ 65535 := by
      unfold dM sx
      repeat' split
      all_goals omega
    have hval := rvalid_fn (dOp w) (dA w) (dB w) (dC w) (dM w) (by omega)
    rw [rv_dok w hw hF] at hval
    have hC2 : formV (dOp w) = 2 → dC w = ((dI w : Nat) : Int) ∧ dM w = 0 := fun h => by unfold dC dM; rw [u3, if_pos (by simp [h]), if_pos (by simp [h])]; exact ⟨rfl, rfl⟩
    have hC3 : formV (dOp w) = 3 ∨ formV (dOp w) = 7 → dC w = 0 ∧ dM w = sx (dI w) := fun h => by
      have e1 : loV (formV (dOp w)) = -32768 := by unfold loV; rw [if_pos h]
      unfold dC dM; rw [u3, if_neg (by simp; omega), if_neg (by simp; omega), u4, e1, if_pos (by omega)]; exact ⟨rfl, rfl⟩
    have hC9 : formV (dOp w) ≠ 2 → formV (dOp w) ≠ 3 → formV (dOp w) ≠ 7 → dC w = 0 ∧ dM w = ((dI w : Nat) : Int) := fun h h3 h7 => by
      have e1 : loV (formV (dOp w)) = 0 := by unfold loV; rw [if_neg (by omega)]
      unfold dC dM; rw [u3, if_neg (by simp [h]), if_neg (by simp [h]), u4, e1, if_neg (by omega)]; exact ⟨rfl, rfl⟩
    have w7 : IntKind.i64.wrap ((dI w : Nat) : Int) = ((dI w : Nat) : Int) := wi64 (by omega) (by omega)
    have w8 : IntKind.i32.wrap (IntKind.i16.wrap ((dI w : Nat) : Int)) = sx (dI w) := e_sx _ hIl
    have w9 : IntKind.i32.wrap ((dI w : Nat) : Int) = ((dI w : Nat) : Int) := wi32 (by omega) (by omega)
    have k16 : IntKind.i16.wrap ((dI w : Nat) : Int) = IntKind.i16.wrap ((dI w : Nat) : Int) := rfl
    have hcase : formV (dOp w) = 2 ∨ (formV (dOp w) = 3 ∨ formV (dOp w) = 7) ∨ (formV (dOp w) ≠ 2 ∧ formV (dOp w) ≠ 3 ∧ formV (dOp w) ≠ 7) := by omega
    rcases hcase with h | h | h
    · obtain ⟨q1, q2⟩ := hC2 h
      rw [q1, q2] at hval ⊢
      clear hC2 hC3 hC9 u0 u1 u2 u3 u4 u5 q1 q2 hm ho
      generalize formV (dOp w) = F at *
      generalize dOk w = ok at *
      generalize dOp w = o at *
      generalize dA w = a at *
      generalize dB w = b at *
      generalize dI w = I at *
      cases ok
      all_goals
        refine fn_of_vc mixed tys_ok _ _ Try.func39 (by kernel_rfl) rfl Try.ntmps39 (by rw [Try.results39]) rfl ?_; dsimp only [argTm, argHl, Nat.zero_add, Nat.reduceAdd, List.length_nil, List.length_cons]
        (repeat' ((conv => whnf); first | ((with_reducible apply Vl.mk (α := Int)); · with_reducible first | exact e_keep _ _ | exact w1 | exact w2 | exact w3 | exact w4 | exact w5 | exact w6 | exact w7)  |  (refine vcall_pure (f := 44) (hf) rfl ?_)  |  (refine vcall_pure (f := 24) (hval) rfl ?_) | (with_reducible apply sd_draw; · kernel_rfl) | (apply Sd.mk; · first | exact rfl | trivial | omega | (repeat' apply And.intro) <;> first | exact rfl | exact Nat.le_of_ble_eq_true rfl | omega | decide) | ((with_reducible apply Vl.mk (α := Int)); · (first | (with_reducible exact bits_keep _ _ _ _) | ((rewrite [tdiv_pos]); (focus (first | exact wi64 (by omega) (by omega) | exact wu32 (by omega) (by omega) | exact wi32 (by omega) (by omega))); omega) | exact tmod_pos (by omega) | exact wi64 (by omega) (by omega) | exact wu32 (by omega) (by omega) | exact wu32' _ | exact wu8 (by omega) (by omega) | exact wu64 (by omega) (by omega) | exact wi32 (by omega) (by omega) | rfl)) | ((with_reducible first | apply Vl.mk (α := Bool) | apply Vl.mk (α := Nat) | apply Vl.mk (α := ByteArray) | apply Ge.mk (α := Row) | apply Ge.mk (α := SV) | apply Ge.mk (α := AV)); · exact rfl) | (refine And.intro rfl ?_) | ((with_reducible first | apply Vl.mk (α := List SV) | apply Vl.mk (α := Ef) | apply Vl.mk (α := TV) | apply Ge.mk (α := List SV) | apply Sg.mk | apply Sk.mk); · (first | exact setAll_eq rfl | exact sg_all _ rfl | exact sk_all _ rfl rfl | ((first | apply sg_fc | apply sk_fc | (apply fc_eq; (conv => arg 1; whnf); apply fc_some) | apply fc_eq); (repeat' (first | exact fc_ren (wsv_scal _) | exact fc_ren (by assumption) | ((conv => arg 1; whnf); first | exact fc_nil | apply fc_cons | exact fc_int | exact fc_bool | exact fc_n | exact fc_ns | exact fc_ptr | exact fc_sl | exact fc_str | exact fc_unk | exact fc_fn | apply fc_s | apply fc_agg | apply fc_ta | apply fc_tup | exact fc_an | apply fc_ac | exact fc_tu | exact fc_nat | exact fc_bo | exact fc_none | apply fc_some | apply fc_pair | apply fc_row | apply fc_ef))); (all_goals exact rfl)) | ((dsimp only [Res.ef, renT, renA, renS, renN, nwN, upN, renRow, List.map_cons, List.map_nil, List.length_cons, List.length_nil]); first | done | exact rfl) | (dsimp only [setAll, List.set_cons_zero, List.set_cons_succ, List.cons_append, List.nil_append]; exact rfl) | exact rfl)) | ((first | apply Br.mk | apply Gd.mk) <;> (intro hb; first | (exact absurd hb (by decide)) | exact Bool.noConfusion (hb.symm.trans (by assumption) : true = false) | exact Bool.noConfusion (hb.symm.trans (by assumption) : false = true) | (simp only [decide_eq_true_eq, decide_eq_false_iff_not, beq_iff_eq, bne_iff_ne, beq_eq_false_iff_ne, bne_eq_false_iff_eq, Bool.not_eq_true', Bool.not_eq_false', Int.not_lt, Int.not_le, ge_iff_le, gt_iff_lt, ne_eq, Classical.not_not] at hb; first | (exfalso; omega) | skip) | skip)))); (all_goals (try (conv => whnf)))
        all_goals first | exact fin_pure rfl rfl | trace_state
    · obtain ⟨q1, q2⟩ := hC3 h
      rw [q1, q2] at hval ⊢
      clear hC2 hC3 hC9 u0 u1 u2 u3 u4 u5 q1 q2 hm ho
      generalize formV (dOp w) = F at *
      generalize dOk w = ok at *
      generalize dOp w = o at *
      generalize dA w = a at *
      generalize dB w = b at *
      generalize sx (dI w) = S at *
      generalize dI w = I at *
      cases ok
      all_goals
        refine fn_of_vc mixed tys_ok _ _ Try.func39 (by kernel_rfl) rfl Try.ntmps39 (by rw [Try.results39]) rfl ?_; dsimp only [argTm, argHl, Nat.zero_add, Nat.reduceAdd, List.length_nil, List.length_cons]
        (repeat' ((conv => whnf); first | ((with_reducible apply Vl.mk (α := Int)); · with_reducible first | exact e_keep _ _ | exact w1 | exact w2 | exact w3 | exact w4 | exact w5 | exact w6 | exact k16 | exact w8)  |  (refine vcall_pure (f := 44) (hf) rfl ?_)  |  (refine vcall_pure (f := 24) (hval) rfl ?_) | (with_reducible apply sd_draw; · kernel_rfl) | (apply Sd.mk; · first | exact rfl | trivial | omega | (repeat' apply And.intro) <;> first | exact rfl | exact Nat.le_of_ble_eq_true rfl | omega | decide) | ((with_reducible apply Vl.mk (α := Int)); · (first | (with_reducible exact bits_keep _ _ _ _) | ((rewrite [tdiv_pos]); (focus (first | exact wi64 (by omega) (by omega) | exact wu32 (by omega) (by omega) | exact wi32 (by omega) (by omega))); omega) | exact tmod_pos (by omega) | exact wi64 (by omega) (by omega) | exact wu32 (by omega) (by omega) | exact wu32' _ | exact wu8 (by omega) (by omega) | exact wu64 (by omega) (by omega) | exact wi32 (by omega) (by omega) | rfl)) | ((with_reducible first | apply Vl.mk (α := Bool) | apply Vl.mk (α := Nat) | apply Vl.mk (α := ByteArray) | apply Ge.mk (α := Row) | apply Ge.mk (α := SV) | apply Ge.mk (α := AV)); · exact rfl) | (refine And.intro rfl ?_) | ((with_reducible first | apply Vl.mk (α := List SV) | apply Vl.mk (α := Ef) | apply Vl.mk (α := TV) | apply Ge.mk (α := List SV) | apply Sg.mk | apply Sk.mk); · (first | exact setAll_eq rfl | exact sg_all _ rfl | exact sk_all _ rfl rfl | ((first | apply sg_fc | apply sk_fc | (apply fc_eq; (conv => arg 1; whnf); apply fc_some) | apply fc_eq); (repeat' (first | exact fc_ren (wsv_scal _) | exact fc_ren (by assumption) | ((conv => arg 1; whnf); first | exact fc_nil | apply fc_cons | exact fc_int | exact fc_bool | exact fc_n | exact fc_ns | exact fc_ptr | exact fc_sl | exact fc_str | exact fc_unk | exact fc_fn | apply fc_s | apply fc_agg | apply fc_ta | apply fc_tup | exact fc_an | apply fc_ac | exact fc_tu | exact fc_nat | exact fc_bo | exact fc_none | apply fc_some | apply fc_pair | apply fc_row | apply fc_ef))); (all_goals exact rfl)) | ((dsimp only [Res.ef, renT, renA, renS, renN, nwN, upN, renRow, List.map_cons, List.map_nil, List.length_cons, List.length_nil]); first | done | exact rfl) | (dsimp only [setAll, List.set_cons_zero, List.set_cons_succ, List.cons_append, List.nil_append]; exact rfl) | exact rfl)) | ((first | apply Br.mk | apply Gd.mk) <;> (intro hb; first | (exact absurd hb (by decide)) | exact Bool.noConfusion (hb.symm.trans (by assumption) : true = false) | exact Bool.noConfusion (hb.symm.trans (by assumption) : false = true) | (simp only [decide_eq_true_eq, decide_eq_false_iff_not, beq_iff_eq, bne_iff_ne, beq_eq_false_iff_ne, bne_eq_false_iff_eq, Bool.not_eq_true', Bool.not_eq_false', Int.not_lt, Int.not_le, ge_iff_le, gt_iff_lt, ne_eq, Classical.not_not] at hb; first | (exfalso; omega) | skip) | skip)))); (all_goals (try (conv => whnf)))
        all_goals first | exact fin_pure rfl rfl | trace_state
    · obtain ⟨q1, q2⟩ := hC9 h.1 h.2.1 h.2.2
      rw [q1, q2] at hval ⊢
      clear hC2 hC3 hC9 u0 u1 u2 u3 u4 u5 q1 q2 hm ho
      generalize formV (dOp w) = F at *
      generalize dOk w = ok at *
      generalize dOp w = o at *
      generalize dA w = a at *
      generalize dB w = b at *
      generalize dI w = I at *
      cases ok
      all_goals
        refine fn_of_vc mixed tys_ok _ _ Try.func39 (by kernel_rfl) rfl Try.ntmps39 (by rw [Try.results39]) rfl ?_; dsimp only [argTm, argHl, Nat.zero_add, Nat.reduceAdd, List.length_nil, List.length_cons]
        (repeat' ((conv => whnf); first | ((with_reducible apply Vl.mk (α := Int)); · with_reducible first | exact e_keep _ _ | exact w1 | exact w2 | exact w3 | exact w4 | exact w5 | exact w6 | exact w9)  |  (refine vcall_pure (f := 44) (hf) rfl ?_)  |  (refine vcall_pure (f := 24) (hval) rfl ?_) | (with_reducible apply sd_draw; · kernel_rfl) | (apply Sd.mk; · first | exact rfl | trivial | omega | (repeat' apply And.intro) <;> first | exact rfl | exact Nat.le_of_ble_eq_true rfl | omega | decide) | ((with_reducible apply Vl.mk (α := Int)); · (first | (with_reducible exact bits_keep _ _ _ _) | ((rewrite [tdiv_pos]); (focus (first | exact wi64 (by omega) (by omega) | exact wu32 (by omega) (by omega) | exact wi32 (by omega) (by omega))); omega) | exact tmod_pos (by omega) | exact wi64 (by omega) (by omega) | exact wu32 (by omega) (by omega) | exact wu32' _ | exact wu8 (by omega) (by omega) | exact wu64 (by omega) (by omega) | exact wi32 (by omega) (by omega) | rfl)) | ((with_reducible first | apply Vl.mk (α := Bool) | apply Vl.mk (α := Nat) | apply Vl.mk (α := ByteArray) | apply Ge.mk (α := Row) | apply Ge.mk (α := SV) | apply Ge.mk (α := AV)); · exact rfl) | (refine And.intro rfl ?_) | ((with_reducible first | apply Vl.mk (α := List SV) | apply Vl.mk (α := Ef) | apply Vl.mk (α := TV) | apply Ge.mk (α := List SV) | apply Sg.mk | apply Sk.mk); · (first | exact setAll_eq rfl | exact sg_all _ rfl | exact sk_all _ rfl rfl | ((first | apply sg_fc | apply sk_fc | (apply fc_eq; (conv => arg 1; whnf); apply fc_some) | apply fc_eq); (repeat' (first | exact fc_ren (wsv_scal _) | exact fc_ren (by assumption) | ((conv => arg 1; whnf); first | exact fc_nil | apply fc_cons | exact fc_int | exact fc_bool | exact fc_n | exact fc_ns | exact fc_ptr | exact fc_sl | exact fc_str | exact fc_unk | exact fc_fn | apply fc_s | apply fc_agg | apply fc_ta | apply fc_tup | exact fc_an | apply fc_ac | exact fc_tu | exact fc_nat | exact fc_bo | exact fc_none | apply fc_some | apply fc_pair | apply fc_row | apply fc_ef))); (all_goals exact rfl)) | ((dsimp only [Res.ef, renT, renA, renS, renN, nwN, upN, renRow, List.map_cons, List.map_nil, List.length_cons, List.length_nil]); first | done | exact rfl) | (dsimp only [setAll, List.set_cons_zero, List.set_cons_succ, List.cons_append, List.nil_append]; exact rfl) | exact rfl)) | ((first | apply Br.mk | apply Gd.mk) <;> (intro hb; first | (exact absurd hb (by decide)) | exact Bool.noConfusion (hb.symm.trans (by assumption) : true = false) | exact Bool.noConfusion (hb.symm.trans (by assumption) : false = true) | (simp only [decide_eq_true_eq, decide_eq_false_iff_not, beq_iff_eq, bne_iff_ne, beq_eq_false_iff_ne, bne_eq_false_iff_eq, Bool.not_eq_true', Bool.not_eq_false', Int.not_lt, Int.not_le, ge_iff_le, gt_iff_lt, ne_eq, Classical.not_not] at hb; first | (exfalso; omega) | skip) | skip)))); (all_goals (try (conv => whnf)))
        all_goals first | exact fin_pure rfl rfl | trace_state
end Go.Proofs.Ytppjiheebpabjaa
