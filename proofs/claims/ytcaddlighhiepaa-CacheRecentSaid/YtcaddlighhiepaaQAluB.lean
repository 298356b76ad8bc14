import Derived.Test.YtcaddlighhiepaaQIsa0
namespace Go.Proofs.Ytcaddlighhiepaa
open Go Go.RowKit
set_option linter.unusedSimpArgs false
set_option linter.unusedVariables false
def sgn (a : Nat) : Int := if a < 2147483648 then (a : Int) else (a : Int) - 4294967296
theorem sgn_wrap (a : Nat) (ha : a < 4294967296) : IntKind.i32.wrap (a : Int) = sgn a := by
  unfold IntKind.wrap sgn
  simp only [IntKind.signed, IntKind.bits, Bool.true_and, decide_eq_true_eq]
  by_cases h : a < 2147483648
  · rw [if_pos h, if_neg (by simp; omega)]; omega
  · rw [if_neg h, if_pos (by simp; omega)]; omega
theorem sgn_rng (a : Nat) (ha : a < 4294967296) : -2147483648 ≤ sgn a ∧ sgn a < 2147483648 := by unfold sgn; split <;> omega
theorem sgn_ne {b : Nat} (hb : b < 4294967296) (h : ((b : Nat) : Int) ≠ 0) : sgn b ≠ 0 := by unfold sgn; split <;> omega
theorem uw_i32 (z : Int) : IntKind.u32.wrap (IntKind.i32.wrap z) = z % 4294967296 := by
  rw [wu32']
  have e : IntKind.i32.wrap z = if z % 4294967296 ≥ 2147483648 then z % 4294967296 - 4294967296 else z % 4294967296 := by
    unfold IntKind.wrap
    simp [IntKind.signed, IntKind.bits]
  rw [e]; split <;> omega
theorem uw_i64 (z : Int) : IntKind.u32.wrap (IntKind.i64.wrap z) = z % 4294967296 := by
  rw [wu32', IntKind.wrap_i64]; omega
def dvQ (a b : Nat) : Int := if b = 0 then 4294967295 else (sgn a).tdiv (sgn b) % 4294967296
def dvR (a b : Nat) : Int := if b = 0 then (a : Int) else (sgn a).tmod (sgn b) % 4294967296
set_option maxRecDepth 100000 in
theorem divide_fn (a b : Nat) (ha : a < 4294967296) (hb0 : b < 4294967296) : Fn Try.prog 91 [.s (.int .u32 a), .s (.int .u32 b)] [] (· = ⟨.tup [.s (.int .u32 (dvQ a b)), .s (.int .u32 (dvR a b))], [], []⟩) := by
  refine fn_of_vc mixed tys_ok _ _ Try.func91 (by kernel_rfl) rfl Try.ntmps91 (by rw [Try.results91]) rfl ?_; dsimp only [argTm, argHl, Nat.zero_add, Nat.reduceAdd, List.length_nil, List.length_cons]
  (repeat' ((conv => whnf); first | ((with_reducible apply Vl.mk (α := Int)); · first | exact uw_i32 _ | exact sgn_wrap _ ha | exact sgn_wrap _ hb0)  |  (apply Sd.mk; · exact sgn_ne hb0 (by omega)) | (with_reducible apply sd_draw; · kernel_rfl) | (apply Sd.mk; · first | exact rfl | trivial | omega | (repeat' apply And.intro) <;> first | exact rfl | exact Nat.le_of_ble_eq_true rfl | omega | decide) | ((with_reducible apply Vl.mk (α := Int)); · (first | (with_reducible exact bits_keep _ _ _ _) | ((rewrite [tdiv_pos]); (focus (first | exact wi64 (by omega) (by omega) | exact wu32 (by omega) (by omega) | exact wi32 (by omega) (by omega))); omega) | exact tmod_pos (by omega) | exact wi64 (by omega) (by omega) | exact wu32 (by omega) (by omega) | exact wu32' _ | exact wu8 (by omega) (by omega) | exact wu64 (by omega) (by omega) | exact wi32 (by omega) (by omega) | rfl)) | ((with_reducible first | apply Vl.mk (α := Bool) | apply Vl.mk (α := Nat) | apply Vl.mk (α := ByteArray) | apply Ge.mk (α := Row) | apply Ge.mk (α := SV) | apply Ge.mk (α := AV)); · exact rfl) | (refine And.intro rfl ?_) | ((with_reducible first | apply Vl.mk (α := List SV) | apply Vl.mk (α := Ef) | apply Vl.mk (α := TV) | apply Ge.mk (α := List SV) | apply Sg.mk | apply Sk.mk); · (first | exact setAll_eq rfl | exact sg_all _ rfl | exact sk_all _ rfl rfl | ((first | apply sg_fc | apply sk_fc | (apply fc_eq; (conv => arg 1; whnf); apply fc_some) | apply fc_eq); (repeat' (first | exact fc_ren (wsv_scal _) | exact fc_ren (by assumption) | ((conv => arg 1; whnf); first | exact fc_nil | apply fc_cons | exact fc_int | exact fc_bool | exact fc_n | exact fc_ns | exact fc_ptr | exact fc_sl | exact fc_str | exact fc_fz | exact fc_unk | exact fc_fn | apply fc_s | apply fc_agg | apply fc_ta | apply fc_tup | exact fc_an | apply fc_ac | exact fc_tu | exact fc_nat | exact fc_bo | exact fc_none | apply fc_some | apply fc_pair | apply fc_row | apply fc_ef))); (all_goals exact rfl)) | ((dsimp only [Res.ef, renT, renA, renS, renN, nwN, upN, renRow, List.map_cons, List.map_nil, List.length_cons, List.length_nil]); first | done | exact rfl) | (dsimp only [setAll, List.set_cons_zero, List.set_cons_succ, List.cons_append, List.nil_append]; exact rfl) | exact rfl)) | ((first | apply Br.mk | apply Gd.mk) <;> (intro hb; first | (exact absurd hb (by decide)) | exact Bool.noConfusion (hb.symm.trans (by assumption) : true = false) | exact Bool.noConfusion (hb.symm.trans (by assumption) : false = true) | (simp only [decide_eq_true_eq, decide_eq_false_iff_not, beq_iff_eq, bne_iff_ne, beq_eq_false_iff_ne, bne_eq_false_iff_eq, Bool.not_eq_true', Bool.not_eq_false', Int.not_lt, Int.not_le, ge_iff_le, gt_iff_lt, ne_eq, Classical.not_not] at hb; first | (exfalso; omega) | skip) | skip)))); (all_goals (try (conv => whnf)))
  all_goals
    refine fin_pure rfl ?_
    simp only [mkRes]
    first
      | (rw [dvQ, dvR, if_pos (by omega), if_pos (by omega)]; done)
      | (rw [dvQ, dvR, if_neg (by omega), if_neg (by omega)]; done)
      | (obtain rfl : a = 2147483648 := by omega
         obtain rfl : b = 4294967295 := by omega
         rfl)
set_option maxRecDepth 100000 in
theorem rdivide_fn (a b : Nat) (ha : a < 4294967296) (hb0 : b < 4294967296) : Fn Try.prog 89 [.s (.int .u32 a), .s (.int .u32 b)] [] (· = ⟨.tup [.s (.int .u32 (dvQ a b)), .s (.int .u32 (dvR a b))], [], []⟩) := by
  have ra := sgn_rng a ha
  have rb := sgn_rng b hb0
  refine fn_of_vc mixed tys_ok _ _ Try.func89 (by kernel_rfl) rfl Try.ntmps89 (by rw [Try.results89]) rfl ?_; dsimp only [argTm, argHl, Nat.zero_add, Nat.reduceAdd, List.length_nil, List.length_cons]
  (repeat' ((conv => whnf); first | ((with_reducible apply Vl.mk (α := Int)); · first | exact uw_i64 _ | exact sgn_wrap _ ha | exact sgn_wrap _ hb0)  |  (apply Sd.mk; · exact sgn_ne hb0 (by omega)) | (with_reducible apply sd_draw; · kernel_rfl) | (apply Sd.mk; · first | exact rfl | trivial | omega | (repeat' apply And.intro) <;> first | exact rfl | exact Nat.le_of_ble_eq_true rfl | omega | decide) | ((with_reducible apply Vl.mk (α := Int)); · (first | (with_reducible exact bits_keep _ _ _ _) | ((rewrite [tdiv_pos]); (focus (first | exact wi64 (by omega) (by omega) | exact wu32 (by omega) (by omega) | exact wi32 (by omega) (by omega))); omega) | exact tmod_pos (by omega) | exact wi64 (by omega) (by omega) | exact wu32 (by omega) (by omega) | exact wu32' _ | exact wu8 (by omega) (by omega) | exact wu64 (by omega) (by omega) | exact wi32 (by omega) (by omega) | rfl)) | ((with_reducible first | apply Vl.mk (α := Bool) | apply Vl.mk (α := Nat) | apply Vl.mk (α := ByteArray) | apply Ge.mk (α := Row) | apply Ge.mk (α := SV) | apply Ge.mk (α := AV)); · exact rfl) | (refine And.intro rfl ?_) | ((with_reducible first | apply Vl.mk (α := List SV) | apply Vl.mk (α := Ef) | apply Vl.mk (α := TV) | apply Ge.mk (α := List SV) | apply Sg.mk | apply Sk.mk); · (first | exact setAll_eq rfl | exact sg_all _ rfl | exact sk_all _ rfl rfl | ((first | apply sg_fc | apply sk_fc | (apply fc_eq; (conv => arg 1; whnf); apply fc_some) | apply fc_eq); (repeat' (first | exact fc_ren (wsv_scal _) | exact fc_ren (by assumption) | ((conv => arg 1; whnf); first | exact fc_nil | apply fc_cons | exact fc_int | exact fc_bool | exact fc_n | exact fc_ns | exact fc_ptr | exact fc_sl | exact fc_str | exact fc_fz | exact fc_unk | exact fc_fn | apply fc_s | apply fc_agg | apply fc_ta | apply fc_tup | exact fc_an | apply fc_ac | exact fc_tu | exact fc_nat | exact fc_bo | exact fc_none | apply fc_some | apply fc_pair | apply fc_row | apply fc_ef))); (all_goals exact rfl)) | ((dsimp only [Res.ef, renT, renA, renS, renN, nwN, upN, renRow, List.map_cons, List.map_nil, List.length_cons, List.length_nil]); first | done | exact rfl) | (dsimp only [setAll, List.set_cons_zero, List.set_cons_succ, List.cons_append, List.nil_append]; exact rfl) | exact rfl)) | ((first | apply Br.mk | apply Gd.mk) <;> (intro hb; first | (exact absurd hb (by decide)) | exact Bool.noConfusion (hb.symm.trans (by assumption) : true = false) | exact Bool.noConfusion (hb.symm.trans (by assumption) : false = true) | (simp only [decide_eq_true_eq, decide_eq_false_iff_not, beq_iff_eq, bne_iff_ne, beq_eq_false_iff_ne, bne_eq_false_iff_eq, Bool.not_eq_true', Bool.not_eq_false', Int.not_lt, Int.not_le, ge_iff_le, gt_iff_lt, ne_eq, Classical.not_not] at hb; first | (exfalso; omega) | skip) | skip)))); (all_goals (try (conv => whnf)))
  all_goals
    refine fin_pure rfl ?_
    simp only [mkRes]
    first
      | (rw [dvQ, dvR, if_pos (by omega), if_pos (by omega)]; done)
      | (rw [dvQ, dvR, if_neg (by omega), if_neg (by omega)]; done)
      | (obtain rfl : a = 2147483648 := by omega
         obtain rfl : b = 4294967295 := by omega
         rfl)
set_option maxRecDepth 100000 in
theorem truth_fn (b : Bool) : Fn Try.prog 92 [.s (.bool b)] [] (· = ⟨.a (.s (.int .u32 (if b then 1 else 0))), [], []⟩) := by
  refine fn_of_vc mixed tys_ok _ _ Try.func92 (by kernel_rfl) rfl Try.ntmps92 (by rw [Try.results92]) rfl ?_; dsimp only [argTm, argHl, Nat.zero_add, Nat.reduceAdd, List.length_nil, List.length_cons]
  (repeat' ((conv => whnf); first | (with_reducible apply sd_draw; · kernel_rfl) | (apply Sd.mk; · first | exact rfl | trivial | omega | (repeat' apply And.intro) <;> first | exact rfl | exact Nat.le_of_ble_eq_true rfl | omega | decide) | ((with_reducible apply Vl.mk (α := Int)); · (first | (with_reducible exact bits_keep _ _ _ _) | ((rewrite [tdiv_pos]); (focus (first | exact wi64 (by omega) (by omega) | exact wu32 (by omega) (by omega) | exact wi32 (by omega) (by omega))); omega) | exact tmod_pos (by omega) | exact wi64 (by omega) (by omega) | exact wu32 (by omega) (by omega) | exact wu32' _ | exact wu8 (by omega) (by omega) | exact wu64 (by omega) (by omega) | exact wi32 (by omega) (by omega) | rfl)) | ((with_reducible first | apply Vl.mk (α := Bool) | apply Vl.mk (α := Nat) | apply Vl.mk (α := ByteArray) | apply Ge.mk (α := Row) | apply Ge.mk (α := SV) | apply Ge.mk (α := AV)); · exact rfl) | (refine And.intro rfl ?_) | ((with_reducible first | apply Vl.mk (α := List SV) | apply Vl.mk (α := Ef) | apply Vl.mk (α := TV) | apply Ge.mk (α := List SV) | apply Sg.mk | apply Sk.mk); · (first | exact setAll_eq rfl | exact sg_all _ rfl | exact sk_all _ rfl rfl | ((first | apply sg_fc | apply sk_fc | (apply fc_eq; (conv => arg 1; whnf); apply fc_some) | apply fc_eq); (repeat' (first | exact fc_ren (wsv_scal _) | exact fc_ren (by assumption) | ((conv => arg 1; whnf); first | exact fc_nil | apply fc_cons | exact fc_int | exact fc_bool | exact fc_n | exact fc_ns | exact fc_ptr | exact fc_sl | exact fc_str | exact fc_fz | exact fc_unk | exact fc_fn | apply fc_s | apply fc_agg | apply fc_ta | apply fc_tup | exact fc_an | apply fc_ac | exact fc_tu | exact fc_nat | exact fc_bo | exact fc_none | apply fc_some | apply fc_pair | apply fc_row | apply fc_ef))); (all_goals exact rfl)) | ((dsimp only [Res.ef, renT, renA, renS, renN, nwN, upN, renRow, List.map_cons, List.map_nil, List.length_cons, List.length_nil]); first | done | exact rfl) | (dsimp only [setAll, List.set_cons_zero, List.set_cons_succ, List.cons_append, List.nil_append]; exact rfl) | exact rfl)) | ((first | apply Br.mk | apply Gd.mk) <;> (intro hb; first | (exact absurd hb (by decide)) | exact Bool.noConfusion (hb.symm.trans (by assumption) : true = false) | exact Bool.noConfusion (hb.symm.trans (by assumption) : false = true) | (simp only [decide_eq_true_eq, decide_eq_false_iff_not, beq_iff_eq, bne_iff_ne, beq_eq_false_iff_ne, bne_eq_false_iff_eq, Bool.not_eq_true', Bool.not_eq_false', Int.not_lt, Int.not_le, ge_iff_le, gt_iff_lt, ne_eq, Classical.not_not] at hb; first | (exfalso; omega) | skip) | skip)))); (all_goals (try (conv => whnf)))
  all_goals (subst hb; apply fin_pure; (focus rfl); rfl)
set_option maxRecDepth 100000 in
theorem bit_fn (b : Bool) : Fn Try.prog 90 [.s (.bool b)] [] (· = ⟨.a (.s (.int .u32 (if b then 1 else 0))), [], []⟩) := by
  refine fn_of_vc mixed tys_ok _ _ Try.func90 (by kernel_rfl) rfl Try.ntmps90 (by rw [Try.results90]) rfl ?_; dsimp only [argTm, argHl, Nat.zero_add, Nat.reduceAdd, List.length_nil, List.length_cons]
  (repeat' ((conv => whnf); first | (with_reducible apply sd_draw; · kernel_rfl) | (apply Sd.mk; · first | exact rfl | trivial | omega | (repeat' apply And.intro) <;> first | exact rfl | exact Nat.le_of_ble_eq_true rfl | omega | decide) | ((with_reducible apply Vl.mk (α := Int)); · (first | (with_reducible exact bits_keep _ _ _ _) | ((rewrite [tdiv_pos]); (focus (first | exact wi64 (by omega) (by omega) | exact wu32 (by omega) (by omega) | exact wi32 (by omega) (by omega))); omega) | exact tmod_pos (by omega) | exact wi64 (by omega) (by omega) | exact wu32 (by omega) (by omega) | exact wu32' _ | exact wu8 (by omega) (by omega) | exact wu64 (by omega) (by omega) | exact wi32 (by omega) (by omega) | rfl)) | ((with_reducible first | apply Vl.mk (α := Bool) | apply Vl.mk (α := Nat) | apply Vl.mk (α := ByteArray) | apply Ge.mk (α := Row) | apply Ge.mk (α := SV) | apply Ge.mk (α := AV)); · exact rfl) | (refine And.intro rfl ?_) | ((with_reducible first | apply Vl.mk (α := List SV) | apply Vl.mk (α := Ef) | apply Vl.mk (α := TV) | apply Ge.mk (α := List SV) | apply Sg.mk | apply Sk.mk); · (first | exact setAll_eq rfl | exact sg_all _ rfl | exact sk_all _ rfl rfl | ((first | apply sg_fc | apply sk_fc | (apply fc_eq; (conv => arg 1; whnf); apply fc_some) | apply fc_eq); (repeat' (first | exact fc_ren (wsv_scal _) | exact fc_ren (by assumption) | ((conv => arg 1; whnf); first | exact fc_nil | apply fc_cons | exact fc_int | exact fc_bool | exact fc_n | exact fc_ns | exact fc_ptr | exact fc_sl | exact fc_str | exact fc_fz | exact fc_unk | exact fc_fn | apply fc_s | apply fc_agg | apply fc_ta | apply fc_tup | exact fc_an | apply fc_ac | exact fc_tu | exact fc_nat | exact fc_bo | exact fc_none | apply fc_some | apply fc_pair | apply fc_row | apply fc_ef))); (all_goals exact rfl)) | ((dsimp only [Res.ef, renT, renA, renS, renN, nwN, upN, renRow, List.map_cons, List.map_nil, List.length_cons, List.length_nil]); first | done | exact rfl) | (dsimp only [setAll, List.set_cons_zero, List.set_cons_succ, List.cons_append, List.nil_append]; exact rfl) | exact rfl)) | ((first | apply Br.mk | apply Gd.mk) <;> (intro hb; first | (exact absurd hb (by decide)) | exact Bool.noConfusion (hb.symm.trans (by assumption) : true = false) | exact Bool.noConfusion (hb.symm.trans (by assumption) : false = true) | (simp only [decide_eq_true_eq, decide_eq_false_iff_not, beq_iff_eq, bne_iff_ne, beq_eq_false_iff_ne, bne_eq_false_iff_eq, Bool.not_eq_true', Bool.not_eq_false', Int.not_lt, Int.not_le, ge_iff_le, gt_iff_lt, ne_eq, Classical.not_not] at hb; first | (exfalso; omega) | skip) | skip)))); (all_goals (try (conv => whnf)))
  all_goals (subst hb; apply fin_pure; (focus rfl); rfl)
def aluV (op : Int) (a b : Nat) : Int :=
  if op = 1 ∨ op = 16 then ((a : Int) + b) % 4294967296 else if op = 2 then ((a : Int) - b) % 4294967296
  else if op = 3 ∨ op = 17 then bits .and .u32 a b else if op = 4 ∨ op = 18 then bits .or .u32 a b else if op = 5 ∨ op = 19 then bits .xor .u32 a b
  else if op = 6 ∨ op = 20 then ((a * 2 ^ (b % 32) % 4294967296 : Nat) : Int) else if op = 7 ∨ op = 21 then ((a / 2 ^ (b % 32) : Nat) : Int)
  else if op = 8 ∨ op = 22 then sgn a / 2 ^ (b % 32) % 4294967296 else if op = 9 then (a : Int) * b % 4294967296
  else if op = 10 then dvQ a b else if op = 11 then dvR a b else if op = 12 ∨ op = 23 then (if decide (sgn a < sgn b) then 1 else 0)
  else if op = 13 then (if decide ((a : Int) < b) then 1 else 0) else 0
def aluB (op : Int) : Bool := decide (1 ≤ op ∧ op ≤ 13 ∨ 16 ≤ op ∧ op ≤ 23)
theorem and31 (b : Nat) (hb : b < 4294967296) : bits .and .u32 (b : Int) 31 = ((b % 32 : Nat) : Int) := and_mask b 5 hb (by omega)
theorem min32 (b : Nat) : min (((b % 32 : Nat) : Int)).toNat IntKind.u32.bits = b % 32 := by simp only [Int.toNat_natCast, IntKind.bits]; omega
theorem shl_v (a b : Nat) : IntKind.u32.wrap ((a : Int) * 2 ^ min (((b % 32 : Nat) : Int)).toNat IntKind.u32.bits) = ((a * 2 ^ (b % 32) % 4294967296 : Nat) : Int) := by
  rw [min32, wu32']; simp
theorem shr_v (a b : Nat) : (a : Int) / 2 ^ min (((b % 32 : Nat) : Int)).toNat IntKind.u32.bits = ((a / 2 ^ (b % 32) : Nat) : Int) := by
  rw [min32]; simp
theorem sar_v (a : Int) (b : Nat) : a / 2 ^ min (((b % 32 : Nat) : Int)).toNat IntKind.i32.bits = a / 2 ^ (b % 32) := by
  have : min (((b % 32 : Nat) : Int)).toNat IntKind.i32.bits = b % 32 := by simp only [Int.toNat_natCast, IntKind.bits]; omega
  rw [this]
set_option maxHeartbeats 4000000 in
set_option maxRecDepth 100000 in
theorem alu_fn (op : Int) (a b : Nat) (ha : a < 4294967296) (hb0 : b < 4294967296) : Fn Try.prog 81 [.s (.int .i64 op), .s (.int .u32 a), .s (.int .u32 b)] [] (· = ⟨.tup [.s (.int .u32 (aluV op a b)), .s (.bool (aluB op))], [], []⟩) := by
  refine fn_of_vc mixed tys_ok _ _ Try.func81 (by kernel_rfl) rfl Try.ntmps81 (by rw [Try.results81]) rfl ?_; dsimp only [argTm, argHl, Nat.zero_add, Nat.reduceAdd, List.length_nil, List.length_cons]
  (repeat' ((conv => whnf); first | (refine vcall_pure (f := 91) (divide_fn a b ha hb0) rfl ?_)  |  (refine vcall_pure (f := 92) (truth_fn _) rfl ?_)  |  ((with_reducible apply Vl.mk (α := Int)); · first | exact and31 _ hb0 | exact shl_v _ _ | exact shr_v _ _ | exact sar_v _ _ | exact sgn_wrap _ ha | exact sgn_wrap _ hb0) | (with_reducible apply sd_draw; · kernel_rfl) | (apply Sd.mk; · first | exact rfl | trivial | omega | (repeat' apply And.intro) <;> first | exact rfl | exact Nat.le_of_ble_eq_true rfl | omega | decide) | ((with_reducible apply Vl.mk (α := Int)); · (first | (with_reducible exact bits_keep _ _ _ _) | ((rewrite [tdiv_pos]); (focus (first | exact wi64 (by omega) (by omega) | exact wu32 (by omega) (by omega) | exact wi32 (by omega) (by omega))); omega) | exact tmod_pos (by omega) | exact wi64 (by omega) (by omega) | exact wu32 (by omega) (by omega) | exact wu32' _ | exact wu8 (by omega) (by omega) | exact wu64 (by omega) (by omega) | exact wi32 (by omega) (by omega) | rfl)) | ((with_reducible first | apply Vl.mk (α := Bool) | apply Vl.mk (α := Nat) | apply Vl.mk (α := ByteArray) | apply Ge.mk (α := Row) | apply Ge.mk (α := SV) | apply Ge.mk (α := AV)); · exact rfl) | (refine And.intro rfl ?_) | ((with_reducible first | apply Vl.mk (α := List SV) | apply Vl.mk (α := Ef) | apply Vl.mk (α := TV) | apply Ge.mk (α := List SV) | apply Sg.mk | apply Sk.mk); · (first | exact setAll_eq rfl | exact sg_all _ rfl | exact sk_all _ rfl rfl | ((first | apply sg_fc | apply sk_fc | (apply fc_eq; (conv => arg 1; whnf); apply fc_some) | apply fc_eq); (repeat' (first | exact fc_ren (wsv_scal _) | exact fc_ren (by assumption) | ((conv => arg 1; whnf); first | exact fc_nil | apply fc_cons | exact fc_int | exact fc_bool | exact fc_n | exact fc_ns | exact fc_ptr | exact fc_sl | exact fc_str | exact fc_fz | exact fc_unk | exact fc_fn | apply fc_s | apply fc_agg | apply fc_ta | apply fc_tup | exact fc_an | apply fc_ac | exact fc_tu | exact fc_nat | exact fc_bo | exact fc_none | apply fc_some | apply fc_pair | apply fc_row | apply fc_ef))); (all_goals exact rfl)) | ((dsimp only [Res.ef, renT, renA, renS, renN, nwN, upN, renRow, List.map_cons, List.map_nil, List.length_cons, List.length_nil]); first | done | exact rfl) | (dsimp only [setAll, List.set_cons_zero, List.set_cons_succ, List.cons_append, List.nil_append]; exact rfl) | exact rfl)) | ((first | apply Br.mk | apply Gd.mk) <;> (intro hb; first | (exact absurd hb (by decide)) | exact Bool.noConfusion (hb.symm.trans (by assumption) : true = false) | exact Bool.noConfusion (hb.symm.trans (by assumption) : false = true) | (simp only [decide_eq_true_eq, decide_eq_false_iff_not, beq_iff_eq, bne_iff_ne, beq_eq_false_iff_ne, bne_eq_false_iff_eq, Bool.not_eq_true', Bool.not_eq_false', Int.not_lt, Int.not_le, ge_iff_le, gt_iff_lt, ne_eq, Classical.not_not] at hb; first | (exfalso; omega) | skip) | skip)))); (all_goals (try (conv => whnf)))
  all_goals
    apply fin_pure
    (focus rfl)
    simp only [mkRes]
    first
      | (subst hb; rfl)
      | (subst hb
         have e : aluV 2 a b = ((a : Int) - b) % 4294967296 := rfl
         rw [e, show (((a : Int) + (0 - (b : Int)) % 4294967296) % 4294967296) = ((a : Int) - b) % 4294967296 by omega]
         rfl)
      | (have e1 : aluV op a b = 0 := by
           unfold aluV
           repeat rw [if_neg (by omega)]
         have e2 : aluB op = false := by
           unfold aluB; rw [decide_eq_false_iff_not]; omega
         rw [e1, e2])
end Go.Proofs.Ytcaddlighhiepaa
namespace Go.Proofs.Ytcaddlighhiepaa
open Go Go.RowKit
set_option linter.unusedSimpArgs false
set_option linter.unusedVariables false
set_option linter.unusedSectionVars false
theorem bits_rng (op : BinOp) (a b : Int) : 0 ≤ bits op .u32 a b ∧ bits op .u32 a b < 4294967296 := by
  unfold bits
  rw [wu32']
  omega
theorem dvQ_rng (a b : Nat) : 0 ≤ dvQ a b ∧ dvQ a b < 4294967296 := by unfold dvQ; split <;> omega
theorem dvR_rng (a b : Nat) (ha : a < 4294967296) : 0 ≤ dvR a b ∧ dvR a b < 4294967296 := by unfold dvR; split <;> omega
def R32 (v : Int) : Prop := 0 ≤ v ∧ v < 4294967296
theorem r32_ite {c : Prop} [Decidable c] {x y : Int} (hx : R32 x) (hy : R32 y) : R32 (if c then x else y) := by split <;> assumption
theorem aluV_rng (op : Int) (a b : Nat) (ha : a < 4294967296) (hb : b < 4294967296) : 0 ≤ aluV op a b ∧ aluV op a b < 4294967296 := by
  have h1 := dvQ_rng a b
  have h2 := dvR_rng a b ha
  have h3 : a / 2 ^ (b % 32) < 4294967296 := Nat.lt_of_le_of_lt (Nat.div_le_self _ _) ha
  have b1 := bits_rng .and (a : Int) b
  have b2 := bits_rng .or (a : Int) b
  have b3 := bits_rng .xor (a : Int) b
  have b4 : R32 ((a / 2 ^ (b % 32) : Nat) : Int) := ⟨Int.natCast_nonneg _, by generalize a / 2 ^ (b % 32) = q at h3 ⊢; omega⟩
  show R32 (aluV op a b)
  unfold aluV
  repeat' first
    | exact b1
    | exact b2
    | exact b3
    | exact b4
    | exact h1
    | exact h2
    | apply r32_ite
    | exact ⟨by omega, by omega⟩
def aluN (op : Int) (a b : Nat) : Nat := (aluV op a b).toNat
theorem aluN_cast (op : Int) (a b : Nat) (ha : a < 4294967296) (hb : b < 4294967296) : ((aluN op a b : Nat) : Int) = aluV op a b := by
  have := aluV_rng op a b ha hb
  unfold aluN; omega
theorem aluN_lt (op : Int) (a b : Nat) (ha : a < 4294967296) (hb : b < 4294967296) : aluN op a b < 4294967296 := by
  have := aluV_rng op a b ha hb
  unfold aluN; omega
theorem bv32 (a : Nat) (ha : a < 4294967296) : (BitVec.ofInt 32 (a : Int)).toNat = a := by
  rw [BitVec.toNat_ofInt]; simp; omega
theorem xor_n (a b : Nat) (ha : a < 4294967296) (hb : b < 4294967296) : bits .xor .u32 (a : Int) b = ((a ^^^ b : Nat) : Int) := by
  have h : a ^^^ b < 2 ^ 32 := Nat.xor_lt_two_pow (by simpa using ha) (by simpa using hb)
  show IntKind.u32.wrap (((BitVec.ofInt 32 (a : Int)) ^^^ (BitVec.ofInt 32 (b : Int))).toNat : Int) = _
  rw [BitVec.toNat_xor, bv32 a ha, bv32 b hb, wu32']
  simp only [Nat.reducePow] at h; omega
section
variable (a b : Nat) (ha : a < 4294967296) (hb : b < 4294967296)
include ha hb
theorem n_add : aluN 1 a b = (a + b) % 4294967296 := by
  have : aluV 1 a b = ((a : Int) + b) % 4294967296 := rfl
  unfold aluN; rw [this]; omega
theorem n_sub : aluN 2 a b = (a + (4294967296 - b)) % 4294967296 := by
  have : aluV 2 a b = ((a : Int) - b) % 4294967296 := rfl
  unfold aluN; rw [this]; omega
theorem n_xor : aluN 5 a b = a ^^^ b := by
  have : aluV 5 a b = bits .xor .u32 (a : Int) b := rfl
  unfold aluN; rw [this, xor_n a b ha hb]; rfl
theorem n_mul : aluN 9 a b = a * b % 4294967296 := by
  have : aluV 9 a b = (a : Int) * b % 4294967296 := rfl
  unfold aluN; rw [this]
  have e : (a : Int) * b = ((a * b : Nat) : Int) := by simp
  rw [e]; omega
theorem l1 : aluN 2 (aluN 1 a b) b = a := by
  have := aluN_lt 1 a b ha hb
  rw [n_sub _ b this hb, n_add a b ha hb]; omega
theorem l2 : aluN 1 a b = aluN 1 b a := by rw [n_add a b ha hb, n_add b a hb ha, Nat.add_comm]
theorem l4 : aluN 5 (aluN 5 a b) b = a := by
  rw [n_xor _ b (aluN_lt 5 a b ha hb) hb, n_xor a b ha hb, Nat.xor_assoc, Nat.xor_self, Nat.xor_zero]
end
theorem l3 (a b c : Nat) (ha : a < 4294967296) (hb : b < 4294967296) (hc : c < 4294967296) : aluN 9 a (aluN 1 b c) = aluN 1 (aluN 9 a b) (aluN 9 a c) := by
  rw [n_mul a _ ha (aluN_lt 1 b c hb hc), n_add b c hb hc, n_add _ _ (aluN_lt 9 a b ha hb) (aluN_lt 9 a c ha hc), n_mul a b ha hb, n_mul a c ha hc]
  rw [Nat.mul_mod, Nat.mod_mod, ← Nat.mul_mod, Nat.mul_add, ← Nat.add_mod]
end Go.Proofs.Ytcaddlighhiepaa
