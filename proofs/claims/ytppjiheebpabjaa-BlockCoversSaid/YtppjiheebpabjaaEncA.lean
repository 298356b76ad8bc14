/- Encoding, by the reference. -/
import Derived.Test.YtppjiheebpabjaaIsaC
import Derived.Test.YtppjiheebpabjaaFrmA
namespace Go.Proofs.Ytppjiheebpabjaa
open Go Go.RowKit
set_option linter.unusedSimpArgs false
set_option linter.unusedVariables false

def loV (f : Int) : Int := if f = 3 ∨ f = 7 then -32768 else 0
def hiV (f : Int) : Int := if f = 3 ∨ f = 7 then 32767 else if f = 4 ∨ f = 6 then 65535 else if f = 5 then 31 else if f = 8 then 7 else if f = 9 then 11 else 0
set_option maxRecDepth 100000 in
theorem bounds_fn (f : Int) : Fn Try.prog 46 [.s (.int .i64 f)] [] (· = ⟨.tup [.s (.int .i64 (loV f)), .s (.int .i64 (hiV f))], [], []⟩) := by
  refine fn_of_vc mixed tys_ok _ _ Try.func46 (by kernel_rfl) rfl Try.ntmps46 (by rw [Try.results46]) rfl ?_; dsimp only [argTm, argHl, Nat.zero_add, Nat.reduceAdd, List.length_nil, List.length_cons]
  (repeat' ((conv => whnf); first | (with_reducible apply sd_draw; · kernel_rfl) | (apply Sd.mk; · first | exact rfl | trivial | omega | (repeat' apply And.intro) <;> first | exact rfl | exact Nat.le_of_ble_eq_true rfl | omega | decide) | ((with_reducible apply Vl.mk (α := Int)); · (first | (with_reducible exact bits_keep _ _ _ _) | ((rewrite [tdiv_pos]); (focus (first | exact wi64 (by omega) (by omega) | exact wu32 (by omega) (by omega) | exact wi32 (by omega) (by omega))); omega) | exact tmod_pos (by omega) | exact wi64 (by omega) (by omega) | exact wu32 (by omega) (by omega) | exact wu32' _ | exact wu8 (by omega) (by omega) | exact wu64 (by omega) (by omega) | exact wi32 (by omega) (by omega) | rfl)) | ((with_reducible first | apply Vl.mk (α := Bool) | apply Vl.mk (α := Nat) | apply Vl.mk (α := ByteArray) | apply Ge.mk (α := Row) | apply Ge.mk (α := SV) | apply Ge.mk (α := AV)); · exact rfl) | (refine And.intro rfl ?_) | ((with_reducible first | apply Vl.mk (α := List SV) | apply Vl.mk (α := Ef) | apply Vl.mk (α := TV) | apply Ge.mk (α := List SV) | apply Sg.mk | apply Sk.mk); · (first | exact setAll_eq rfl | exact sg_all _ rfl | exact sk_all _ rfl rfl | ((first | apply sg_fc | apply sk_fc | (apply fc_eq; (conv => arg 1; whnf); apply fc_some) | apply fc_eq); (repeat' (first | exact fc_ren (wsv_scal _) | exact fc_ren (by assumption) | ((conv => arg 1; whnf); first | exact fc_nil | apply fc_cons | exact fc_int | exact fc_bool | exact fc_n | exact fc_ns | exact fc_ptr | exact fc_sl | exact fc_str | exact fc_unk | exact fc_fn | apply fc_s | apply fc_agg | apply fc_ta | apply fc_tup | exact fc_an | apply fc_ac | exact fc_tu | exact fc_nat | exact fc_bo | exact fc_none | apply fc_some | apply fc_pair | apply fc_row | apply fc_ef))); (all_goals exact rfl)) | ((dsimp only [Res.ef, renT, renA, renS, renN, nwN, upN, renRow, List.map_cons, List.map_nil, List.length_cons, List.length_nil]); first | done | exact rfl) | (dsimp only [setAll, List.set_cons_zero, List.set_cons_succ, List.cons_append, List.nil_append]; exact rfl) | exact rfl)) | ((first | apply Br.mk | apply Gd.mk) <;> (intro hb; first | (exact absurd hb (by decide)) | exact Bool.noConfusion (hb.symm.trans (by assumption) : true = false) | exact Bool.noConfusion (hb.symm.trans (by assumption) : false = true) | (simp only [decide_eq_true_eq, decide_eq_false_iff_not, beq_iff_eq, bne_iff_ne, beq_eq_false_iff_ne, bne_eq_false_iff_eq, Bool.not_eq_true', Bool.not_eq_false', Int.not_lt, Int.not_le, ge_iff_le, gt_iff_lt, ne_eq, Classical.not_not] at hb; first | (exfalso; omega) | skip) | skip)))); (all_goals (try (conv => whnf)))
  all_goals first
    | (subst hb; exact fin_pure rfl rfl)
    | (apply fin_pure
       (focus rfl)
       simp only [mkRes]
       rw [loV, hiV, if_neg (by omega), if_neg (by omega), if_neg (by omega), if_neg (by omega), if_neg (by omega), if_neg (by omega)])
def rgV (r : Int) : Bool := decide (0 ≤ r ∧ r ≤ 15)
set_option maxRecDepth 100000 in
theorem rrg_fn (r : Int) : Fn Try.prog 45 [.s (.int .i64 r)] [] (· = ⟨.a (.s (.bool (rgV r))), [], []⟩) := by
  refine fn_of_vc mixed tys_ok _ _ Try.func45 (by kernel_rfl) rfl Try.ntmps45 (by rw [Try.results45]) rfl ?_; dsimp only [argTm, argHl, Nat.zero_add, Nat.reduceAdd, List.length_nil, List.length_cons]
  (repeat' ((conv => whnf); first | (with_reducible apply sd_draw; · kernel_rfl) | (apply Sd.mk; · first | exact rfl | trivial | omega | (repeat' apply And.intro) <;> first | exact rfl | exact Nat.le_of_ble_eq_true rfl | omega | decide) | ((with_reducible apply Vl.mk (α := Int)); · (first | (with_reducible exact bits_keep _ _ _ _) | ((rewrite [tdiv_pos]); (focus (first | exact wi64 (by omega) (by omega) | exact wu32 (by omega) (by omega) | exact wi32 (by omega) (by omega))); omega) | exact tmod_pos (by omega) | exact wi64 (by omega) (by omega) | exact wu32 (by omega) (by omega) | exact wu32' _ | exact wu8 (by omega) (by omega) | exact wu64 (by omega) (by omega) | exact wi32 (by omega) (by omega) | rfl)) | ((with_reducible first | apply Vl.mk (α := Bool) | apply Vl.mk (α := Nat) | apply Vl.mk (α := ByteArray) | apply Ge.mk (α := Row) | apply Ge.mk (α := SV) | apply Ge.mk (α := AV)); · exact rfl) | (refine And.intro rfl ?_) | ((with_reducible first | apply Vl.mk (α := List SV) | apply Vl.mk (α := Ef) | apply Vl.mk (α := TV) | apply Ge.mk (α := List SV) | apply Sg.mk | apply Sk.mk); · (first | exact setAll_eq rfl | exact sg_all _ rfl | exact sk_all _ rfl rfl | ((first | apply sg_fc | apply sk_fc | (apply fc_eq; (conv => arg 1; whnf); apply fc_some) | apply fc_eq); (repeat' (first | exact fc_ren (wsv_scal _) | exact fc_ren (by assumption) | ((conv => arg 1; whnf); first | exact fc_nil | apply fc_cons | exact fc_int | exact fc_bool | exact fc_n | exact fc_ns | exact fc_ptr | exact fc_sl | exact fc_str | exact fc_unk | exact fc_fn | apply fc_s | apply fc_agg | apply fc_ta | apply fc_tup | exact fc_an | apply fc_ac | exact fc_tu | exact fc_nat | exact fc_bo | exact fc_none | apply fc_some | apply fc_pair | apply fc_row | apply fc_ef))); (all_goals exact rfl)) | ((dsimp only [Res.ef, renT, renA, renS, renN, nwN, upN, renRow, List.map_cons, List.map_nil, List.length_cons, List.length_nil]); first | done | exact rfl) | (dsimp only [setAll, List.set_cons_zero, List.set_cons_succ, List.cons_append, List.nil_append]; exact rfl) | exact rfl)) | ((first | apply Br.mk | apply Gd.mk) <;> (intro hb; first | (exact absurd hb (by decide)) | exact Bool.noConfusion (hb.symm.trans (by assumption) : true = false) | exact Bool.noConfusion (hb.symm.trans (by assumption) : false = true) | (simp only [decide_eq_true_eq, decide_eq_false_iff_not, beq_iff_eq, bne_iff_ne, beq_eq_false_iff_ne, bne_eq_false_iff_eq, Bool.not_eq_true', Bool.not_eq_false', Int.not_lt, Int.not_le, ge_iff_le, gt_iff_lt, ne_eq, Classical.not_not] at hb; first | (exfalso; omega) | skip) | skip)))); (all_goals (try (conv => whnf)))
  all_goals (apply fin_pure; (focus rfl); simp only [mkRes]; congr 3; grind [rgV])
def rvV (o a b c m : Int) : Bool :=
  decide (formV o ≠ 0 ∧ (0 ≤ a ∧ a ≤ 15) ∧ (0 ≤ b ∧ b ≤ 15) ∧ (0 ≤ c ∧ c ≤ 15) ∧ loV (formV o) ≤ m ∧ m ≤ hiV (formV o) ∧ (formV o = 2 ∨ c = 0) ∧ (formV o = 1 → a = 0) ∧ (b = 0 ∨ 2 ≤ formV o ∧ formV o ≤ 5))
set_option maxHeartbeats 4000000 in
set_option maxRecDepth 100000 in
theorem rvalid_fn (o a b c m : Int) (hm : -2147483648 ≤ m ∧ m ≤ 2147483647) : Fn Try.prog 24 [.agg (iv o a b c m)] [] (· = ⟨.a (.s (.bool (rvV o a b c m))), [], []⟩) := by
  unfold rvV
  have hf := form_fn o
  have hbd := bounds_fn (formV o)
  generalize formV o = f at *
  generalize loV f = lo at *
  generalize hiV f = hi at *
  refine fn_of_vc mixed tys_ok _ _ Try.func24 (by kernel_rfl) rfl Try.ntmps24 (by rw [Try.results24]) rfl ?_; dsimp only [argTm, argHl, Nat.zero_add, Nat.reduceAdd, List.length_nil, List.length_cons]
  unfold iv
  (repeat' ((conv => whnf); first | (refine vcall_pure (f := 44) (hf) rfl ?_)  |  (refine vcall_pure (f := 46) (hbd) rfl ?_)  |  (refine vcall_pure (f := 45) (rrg_fn _) rfl ?_) | (with_reducible apply sd_draw; · kernel_rfl) | (apply Sd.mk; · first | exact rfl | trivial | omega | (repeat' apply And.intro) <;> first | exact rfl | exact Nat.le_of_ble_eq_true rfl | omega | decide) | ((with_reducible apply Vl.mk (α := Int)); · (first | (with_reducible exact bits_keep _ _ _ _) | ((rewrite [tdiv_pos]); (focus (first | exact wi64 (by omega) (by omega) | exact wu32 (by omega) (by omega) | exact wi32 (by omega) (by omega))); omega) | exact tmod_pos (by omega) | exact wi64 (by omega) (by omega) | exact wu32 (by omega) (by omega) | exact wu32' _ | exact wu8 (by omega) (by omega) | exact wu64 (by omega) (by omega) | exact wi32 (by omega) (by omega) | rfl)) | ((with_reducible first | apply Vl.mk (α := Bool) | apply Vl.mk (α := Nat) | apply Vl.mk (α := ByteArray) | apply Ge.mk (α := Row) | apply Ge.mk (α := SV) | apply Ge.mk (α := AV)); · exact rfl) | (refine And.intro rfl ?_) | ((with_reducible first | apply Vl.mk (α := List SV) | apply Vl.mk (α := Ef) | apply Vl.mk (α := TV) | apply Ge.mk (α := List SV) | apply Sg.mk | apply Sk.mk); · (first | exact setAll_eq rfl | exact sg_all _ rfl | exact sk_all _ rfl rfl | ((first | apply sg_fc | apply sk_fc | (apply fc_eq; (conv => arg 1; whnf); apply fc_some) | apply fc_eq); (repeat' (first | exact fc_ren (wsv_scal _) | exact fc_ren (by assumption) | ((conv => arg 1; whnf); first | exact fc_nil | apply fc_cons | exact fc_int | exact fc_bool | exact fc_n | exact fc_ns | exact fc_ptr | exact fc_sl | exact fc_str | exact fc_unk | exact fc_fn | apply fc_s | apply fc_agg | apply fc_ta | apply fc_tup | exact fc_an | apply fc_ac | exact fc_tu | exact fc_nat | exact fc_bo | exact fc_none | apply fc_some | apply fc_pair | apply fc_row | apply fc_ef))); (all_goals exact rfl)) | ((dsimp only [Res.ef, renT, renA, renS, renN, nwN, upN, renRow, List.map_cons, List.map_nil, List.length_cons, List.length_nil]); first | done | exact rfl) | (dsimp only [setAll, List.set_cons_zero, List.set_cons_succ, List.cons_append, List.nil_append]; exact rfl) | exact rfl)) | ((first | apply Br.mk | apply Gd.mk) <;> (intro hb; first | (exact absurd hb (by decide)) | exact Bool.noConfusion (hb.symm.trans (by assumption) : true = false) | exact Bool.noConfusion (hb.symm.trans (by assumption) : false = true) | (simp only [decide_eq_true_eq, decide_eq_false_iff_not, beq_iff_eq, bne_iff_ne, beq_eq_false_iff_ne, bne_eq_false_iff_eq, Bool.not_eq_true', Bool.not_eq_false', Int.not_lt, Int.not_le, ge_iff_le, gt_iff_lt, ne_eq, Classical.not_not] at hb; first | (exfalso; omega) | skip) | skip)))); (all_goals (try (conv => whnf)))
  all_goals
    apply fin_pure
    (focus rfl)
    simp only [mkRes]
    congr 3
    try simp only [rgV, decide_eq_true_eq, decide_eq_false_iff_not, Bool.not_eq_true', Bool.not_eq_false'] at *
    first
      | (refine (decide_eq_false ?_).symm; omega)
      | (refine (decide_eq_true ?_).symm; omega)
      | (rw [Bool.eq_iff_iff]; simp only [decide_eq_true_eq, beq_iff_eq]; omega)
/-- The word of an instruction. -/
def encV (o a b c m : Int) : Int := o * 16777216 + a * 1048576 + b * 65536 + m % 65536 + c
theorem or_dis (p q k : Nat) (h : q < 2 ^ k) : (2 ^ k * p) ||| q = 2 ^ k * p + q := (Nat.two_pow_add_eq_or_of_lt h p).symm
theorem sh_c (x : Int) (n : Nat) (hn : n ≤ 32) : x * 2 ^ min ((n : Nat) : Int).toNat IntKind.u32.bits = x * 2 ^ n := by
  have : min ((n : Nat) : Int).toNat IntKind.u32.bits = n := by simp only [Int.toNat_natCast, IntKind.bits]; omega
  rw [this]
theorem bv32' (a : Nat) (ha : a < 4294967296) : (BitVec.ofInt 32 (a : Int)).toNat = a := by
  rw [BitVec.toNat_ofInt]; simp; omega
theorem or_nn (a b : Nat) (ha : a < 4294967296) (hb : b < 4294967296) : bits .or .u32 (a : Int) b = ((a ||| b : Nat) : Int) := by
  have h : a ||| b < 2 ^ 32 := Nat.or_lt_two_pow (by simpa using ha) (by simpa using hb)
  show IntKind.u32.wrap (((BitVec.ofInt 32 (a : Int)) ||| (BitVec.ofInt 32 (b : Int))).toNat : Int) = _
  rw [BitVec.toNat_or, bv32' a ha, bv32' b hb, wu32']
  simp only [Nat.reducePow] at h; omega
/-- An or of parts that do not meet. -/
theorem or_sum (x y : Int) (k : Nat) (p q : Nat) (hx : x = ((2 ^ k * p : Nat) : Int)) (hy : y = (q : Int)) (hq : q < 2 ^ k) (h1 : 2 ^ k * p < 4294967296) (h2 : q < 4294967296) : bits .or .u32 x y = x + y := by
  subst hx hy
  rw [or_nn _ _ h1 h2, or_dis p q k hq]; simp
theorem form_rng {o : Int} (h : formV o ≠ 0) : 1 ≤ o ∧ o ≤ 64 := by
  by_cases h1 : 1 ≤ o ∧ o ≤ 64
  · exact h1
  · refine absurd ?_ h
    unfold formV
    repeat' first
      | rfl
      | (apply int_ite <;> intro _)
      | (exfalso; omega)
theorem lo_2 : loV 2 = 0 ∧ hiV 2 = 0 := ⟨rfl, rfl⟩
set_option maxHeartbeats 4000000 in
set_option maxRecDepth 100000 in
theorem encode_fn (o a b c m : Int) (hm : -2147483648 ≤ m ∧ m ≤ 2147483647) (hv : rvV o a b c m = true) : Fn Try.prog 9 [.agg (iv o a b c m)] [] (· = ⟨.tup [.s (.int .u32 (encV o a b c m)), .s (.bool true)], [], []⟩) := by
  have f1 := rvalid_fn o a b c m hm
  rw [hv] at f1
  have hv := of_decide_eq_true hv
  obtain ⟨v1, v2, v3, v4, v5, v6, v7, v8, v9⟩ := hv
  have ho := form_rng v1
  have hcm : c = 0 ∨ m = 0 := by
    rcases v7 with h | h
    · rw [h] at v5 v6; have := lo_2; right; omega
    · exact .inl h
  have w1 : IntKind.u32.wrap o = o := wu32 (by omega) (by omega)
  have w2 : IntKind.u32.wrap a = a := wu32 (by omega) (by omega)
  have w3 : IntKind.u32.wrap b = b := wu32 (by omega) (by omega)
  have w4 : IntKind.u32.wrap c = c := wu32 (by omega) (by omega)
  have w5 : IntKind.u32.wrap m = m % 4294967296 := wu32' m
  have s1 : IntKind.u32.wrap (o * 2 ^ min (Int.toNat 24) IntKind.u32.bits) = o * 16777216 := by
    rw [show (2 : Int) ^ min (Int.toNat 24) IntKind.u32.bits = 16777216 from rfl]; exact wu32 (by omega) (by omega)
  have s2 : IntKind.u32.wrap (a * 2 ^ min (Int.toNat 20) IntKind.u32.bits) = a * 1048576 := by
    rw [show (2 : Int) ^ min (Int.toNat 20) IntKind.u32.bits = 1048576 from rfl]; exact wu32 (by omega) (by omega)
  have s3 : IntKind.u32.wrap (b * 2 ^ min (Int.toNat 16) IntKind.u32.bits) = b * 65536 := by
    rw [show (2 : Int) ^ min (Int.toNat 16) IntKind.u32.bits = 65536 from rfl]; exact wu32 (by omega) (by omega)
  have e1 : bits .or .u32 (o * 16777216) (a * 1048576) = o * 16777216 + a * 1048576 := or_sum _ _ 24 o.toNat (a * 1048576).toNat (by simp only [Nat.reducePow]; omega) (by omega) (by simp only [Nat.reducePow]; omega) (by simp only [Nat.reducePow]; omega) (by omega)
  have e2 : bits .or .u32 (o * 16777216 + a * 1048576) (b * 65536) = o * 16777216 + a * 1048576 + b * 65536 := or_sum _ _ 20 (16 * o + a).toNat (b * 65536).toNat (by simp only [Nat.reducePow]; omega) (by omega) (by simp only [Nat.reducePow]; omega) (by simp only [Nat.reducePow]; omega) (by omega)
  have e3 : bits .and .u32 (m % 4294967296) 65535 = m % 65536 := by
    have := and_mask (m % 4294967296).toNat 16 (by omega) (by omega)
    rw [show (((m % 4294967296).toNat : Nat) : Int) = m % 4294967296 by omega] at this
    have e : bits .and .u32 (m % 4294967296) 65535 = (((m % 4294967296).toNat % 2 ^ 16 : Nat) : Int) := this
    rw [e]; simp only [Nat.reducePow]; omega
  have e4 : bits .or .u32 (o * 16777216 + a * 1048576 + b * 65536) (m % 65536) = o * 16777216 + a * 1048576 + b * 65536 + m % 65536 := or_sum _ _ 16 (256 * o + 16 * a + b).toNat (m % 65536).toNat (by simp only [Nat.reducePow]; omega) (by omega) (by simp only [Nat.reducePow]; omega) (by simp only [Nat.reducePow]; omega) (by omega)
  have e5 : bits .or .u32 (o * 16777216 + a * 1048576 + b * 65536 + m % 65536) c = encV o a b c m := by
    unfold encV
    rcases hcm with h | h
    · subst h
      exact or_sum _ _ 0 (o * 16777216 + a * 1048576 + b * 65536 + m % 65536).toNat 0 (by simp only [Nat.pow_zero]; omega) rfl (by simp) (by simp only [Nat.pow_zero]; omega) (by omega)
    · subst h
      exact or_sum _ _ 16 (256 * o + 16 * a + b).toNat c.toNat (by simp only [Nat.reducePow]; omega) (by omega) (by simp only [Nat.reducePow]; omega) (by simp only [Nat.reducePow]; omega) (by omega)
  refine fn_of_vc mixed tys_ok _ _ Try.func9 (by kernel_rfl) rfl Try.ntmps9 (by rw [Try.results9]) rfl ?_; dsimp only [argTm, argHl, Nat.zero_add, Nat.reduceAdd, List.length_nil, List.length_cons]
  unfold iv
  (repeat' ((conv => whnf); first | (refine vcall_pure (f := 24) (f1) rfl ?_)  |  ((with_reducible apply Vl.mk (α := Int)); · with_reducible first | exact w1 | exact w2 | exact w3 | exact w4 | exact w5 | exact s1 | exact s2 | exact s3 | exact e1 | exact e2 | exact e3 | exact e4 | exact e5) | (with_reducible apply sd_draw; · kernel_rfl) | (apply Sd.mk; · first | exact rfl | trivial | omega | (repeat' apply And.intro) <;> first | exact rfl | exact Nat.le_of_ble_eq_true rfl | omega | decide) | ((with_reducible apply Vl.mk (α := Int)); · (first | (with_reducible exact bits_keep _ _ _ _) | ((rewrite [tdiv_pos]); (focus (first | exact wi64 (by omega) (by omega) | exact wu32 (by omega) (by omega) | exact wi32 (by omega) (by omega))); omega) | exact tmod_pos (by omega) | exact wi64 (by omega) (by omega) | exact wu32 (by omega) (by omega) | exact wu32' _ | exact wu8 (by omega) (by omega) | exact wu64 (by omega) (by omega) | exact wi32 (by omega) (by omega) | rfl)) | ((with_reducible first | apply Vl.mk (α := Bool) | apply Vl.mk (α := Nat) | apply Vl.mk (α := ByteArray) | apply Ge.mk (α := Row) | apply Ge.mk (α := SV) | apply Ge.mk (α := AV)); · exact rfl) | (refine And.intro rfl ?_) | ((with_reducible first | apply Vl.mk (α := List SV) | apply Vl.mk (α := Ef) | apply Vl.mk (α := TV) | apply Ge.mk (α := List SV) | apply Sg.mk | apply Sk.mk); · (first | exact setAll_eq rfl | exact sg_all _ rfl | exact sk_all _ rfl rfl | ((first | apply sg_fc | apply sk_fc | (apply fc_eq; (conv => arg 1; whnf); apply fc_some) | apply fc_eq); (repeat' (first | exact fc_ren (wsv_scal _) | exact fc_ren (by assumption) | ((conv => arg 1; whnf); first | exact fc_nil | apply fc_cons | exact fc_int | exact fc_bool | exact fc_n | exact fc_ns | exact fc_ptr | exact fc_sl | exact fc_str | exact fc_unk | exact fc_fn | apply fc_s | apply fc_agg | apply fc_ta | apply fc_tup | exact fc_an | apply fc_ac | exact fc_tu | exact fc_nat | exact fc_bo | exact fc_none | apply fc_some | apply fc_pair | apply fc_row | apply fc_ef))); (all_goals exact rfl)) | ((dsimp only [Res.ef, renT, renA, renS, renN, nwN, upN, renRow, List.map_cons, List.map_nil, List.length_cons, List.length_nil]); first | done | exact rfl) | (dsimp only [setAll, List.set_cons_zero, List.set_cons_succ, List.cons_append, List.nil_append]; exact rfl) | exact rfl)) | ((first | apply Br.mk | apply Gd.mk) <;> (intro hb; first | (exact absurd hb (by decide)) | exact Bool.noConfusion (hb.symm.trans (by assumption) : true = false) | exact Bool.noConfusion (hb.symm.trans (by assumption) : false = true) | (simp only [decide_eq_true_eq, decide_eq_false_iff_not, beq_iff_eq, bne_iff_ne, beq_eq_false_iff_ne, bne_eq_false_iff_eq, Bool.not_eq_true', Bool.not_eq_false', Int.not_lt, Int.not_le, ge_iff_le, gt_iff_lt, ne_eq, Classical.not_not] at hb; first | (exfalso; omega) | skip) | skip)))); (all_goals (try (conv => whnf)))
  all_goals exact fin_pure rfl rfl
end Go.Proofs.Ytppjiheebpabjaa
