/- The processor: status bits, Trap, Return, Write. -/
import Derived.Test.YtckdamhnmcmbbaaCpuA
import Derived.Test.YtckdamhnmcmbbaaAluB
namespace Go.Proofs.Ytckdamhnmcmbbaa
open Go Go.RowKit
set_option linter.unusedSimpArgs false
set_option linter.unusedVariables false

theorem not_n (m : Nat) (hm : m < 4294967296) : (~~~ (BitVec.ofInt 32 (m : Int))).toNat = 4294967295 - m := by
  rw [BitVec.toNat_not, bv32 m hm]
theorem andNot_n (a b : Nat) (ha : a < 4294967296) (hb : b < 4294967296) : bits .andNot .u32 (a : Int) b = ((a &&& (4294967295 - b) : Nat) : Int) := by
  have h : a &&& (4294967295 - b) ≤ a := Nat.and_le_left
  show IntKind.u32.wrap (((BitVec.ofInt 32 (a : Int)) &&& ~~~ (BitVec.ofInt 32 (b : Int))).toNat : Int) = _
  rw [BitVec.toNat_and, bv32 a ha, not_n b hb, wu32']
  generalize a &&& (4294967295 - b) = z at *
  omega
/-- Words by their five low bits and the rest. -/
theorem lo_bit (h l i : Nat) (hl : l < 32) : (32 * h + l).testBit i = if i < 5 then l.testBit i else h.testBit (i - 5) := by
  have := Nat.testBit_two_pow_mul_add h (i := 5) (show l < 2 ^ 5 by simpa using hl) i
  simpa using this
theorem lt_bit {l i : Nat} (hl : l < 32) (hi : ¬ i < 5) : l.testBit i = false :=
  Nat.testBit_lt_two_pow (Nat.lt_of_lt_of_le (show l < 2 ^ 5 by simpa using hl) (Nat.pow_le_pow_right (by omega) (by omega)))
theorem or5 {a b : Nat} (ha : a < 32) (hb : b < 32) : a ||| b < 32 := Nat.or_lt_two_pow (n := 5) ha hb
theorem and5 {a b : Nat} (ha : a < 32) : a &&& b < 32 := Nat.lt_of_le_of_lt Nat.and_le_left ha
theorem ite5 {c : Prop} [Decidable c] {a b : Nat} (ha : a < 32) (hb : b < 32) : (if c then a else b) < 32 := by split <;> assumption
theorem lo_and (h l m : Nat) (hl : l < 32) (hm : m < 32) : (32 * h + l) &&& m = l &&& m := by
  apply Nat.eq_of_testBit_eq
  intro i
  rw [Nat.testBit_and, Nat.testBit_and, lo_bit h l i hl]
  by_cases hi : i < 5
  · rw [if_pos hi]
  · rw [if_neg hi, lt_bit hm hi]; simp
theorem lo_or (h l m : Nat) (hl : l < 32) (hm : m < 32) : (32 * h + l) ||| m = 32 * h + (l ||| m) := by
  have hlm : l ||| m < 32 := Nat.or_lt_two_pow (n := 5) (by simpa using hl) (by simpa using hm)
  apply Nat.eq_of_testBit_eq
  intro i
  rw [Nat.testBit_or, lo_bit h l i hl, lo_bit h _ i hlm, Nat.testBit_or]
  by_cases hi : i < 5
  · rw [if_pos hi, if_pos hi]
  · rw [if_neg hi, if_neg hi, lt_bit hm hi]; simp
theorem lo_not (h l m : Nat) (hl : l < 32) (hm : m < 32) (hs : 32 * h + l < 4294967296) : (32 * h + l) &&& (4294967295 - m) = 32 * h + (l &&& (31 - m)) := by
  have hlm : l &&& (31 - m) < 32 := Nat.lt_of_le_of_lt Nat.and_le_left hl
  have e : 4294967295 - m = 32 * 134217727 + (31 - m) := by omega
  apply Nat.eq_of_testBit_eq
  intro i
  rw [e, Nat.testBit_and, lo_bit h l i hl, lo_bit _ _ i (by omega), lo_bit h _ i hlm, Nat.testBit_and]
  by_cases hi : i < 5
  · simp only [if_pos hi]
  · simp only [if_neg hi]
    rw [show (134217727 : Nat) = 2 ^ 27 - 1 from rfl, Nat.testBit_two_pow_sub_one]
    by_cases h2 : i - 5 < 27
    · simp [h2]
    · have : h.testBit (i - 5) = false := Nat.testBit_lt_two_pow (Nat.lt_of_lt_of_le (show h < 2 ^ 27 by simp; omega) (Nat.pow_le_pow_right (by omega) (by omega)))
      rw [this]; simp
def mvN (s f t : Nat) : Nat := if s &&& f = 0 then s &&& (4294967295 - t) else s ||| t
theorem mvN_lt (s f t : Nat) (hs : s < 4294967296) (ht : t < 4294967296) : mvN s f t < 4294967296 := by
  unfold mvN
  split
  · exact Nat.lt_of_le_of_lt Nat.and_le_left hs
  · exact Nat.or_lt_two_pow (n := 32) (by simpa using hs) (by simpa using ht)
set_option maxRecDepth 100000 in
theorem move_fn (s f t : Nat) (hs : s < 4294967296) (hf : f < 4294967296) (ht : t < 4294967296) : Fn Try.prog 41 [.s (.int .u32 s), .s (.int .u32 f), .s (.int .u32 t)] [] (· = ⟨.a (.s (.int .u32 (mvN s f t : Nat))), [], []⟩) := by
  refine fn_of_vc mixed tys_ok _ _ Try.func41 (by kernel_rfl) rfl Try.ntmps41 (by rw [Try.results41]) rfl ?_; dsimp only [argTm, argHl, Nat.zero_add, Nat.reduceAdd, List.length_nil, List.length_cons]
  (repeat' ((conv => whnf); first | ((with_reducible apply Vl.mk (α := Int)); · first | exact and_n s f hs hf | exact or_n s t hs ht | exact andNot_n s t hs ht) | (with_reducible apply sd_draw; · kernel_rfl) | (apply Sd.mk; · first | exact rfl | trivial | omega | (repeat' apply And.intro) <;> first | exact rfl | exact Nat.le_of_ble_eq_true rfl | omega | decide) | ((with_reducible apply Vl.mk (α := Int)); · (first | (with_reducible exact bits_keep _ _ _ _) | ((rewrite [tdiv_pos]); (focus (first | exact wi64 (by omega) (by omega) | exact wu32 (by omega) (by omega) | exact wi32 (by omega) (by omega))); omega) | exact tmod_pos (by omega) | exact wi64 (by omega) (by omega) | exact wu32 (by omega) (by omega) | exact wu32' _ | exact wu8 (by omega) (by omega) | exact wu64 (by omega) (by omega) | exact wi32 (by omega) (by omega) | rfl)) | ((with_reducible first | apply Vl.mk (α := Bool) | apply Vl.mk (α := Nat) | apply Vl.mk (α := ByteArray) | apply Ge.mk (α := Row) | apply Ge.mk (α := SV) | apply Ge.mk (α := AV)); · exact rfl) | (refine And.intro rfl ?_) | ((with_reducible first | apply Vl.mk (α := List SV) | apply Vl.mk (α := Ef) | apply Vl.mk (α := TV) | apply Ge.mk (α := List SV) | apply Sg.mk | apply Sk.mk); · (first | exact setAll_eq rfl | exact sg_all _ rfl | exact sk_all _ rfl rfl | ((first | apply sg_fc | apply sk_fc | (apply fc_eq; (conv => arg 1; whnf); apply fc_some) | apply fc_eq); (repeat' (first | exact fc_ren (wsv_scal _) | exact fc_ren (by assumption) | ((conv => arg 1; whnf); first | exact fc_nil | apply fc_cons | exact fc_int | exact fc_bool | exact fc_n | exact fc_ns | exact fc_ptr | exact fc_sl | exact fc_str | exact fc_unk | exact fc_fn | apply fc_s | apply fc_agg | apply fc_ta | apply fc_tup | exact fc_an | apply fc_ac | exact fc_tu | exact fc_nat | exact fc_bo | exact fc_none | apply fc_some | apply fc_pair | apply fc_row | apply fc_ef))); (all_goals exact rfl)) | ((dsimp only [Res.ef, renT, renA, renS, renN, nwN, upN, renRow, List.map_cons, List.map_nil, List.length_cons, List.length_nil]); first | done | exact rfl) | (dsimp only [setAll, List.set_cons_zero, List.set_cons_succ, List.cons_append, List.nil_append]; exact rfl) | exact rfl)) | ((first | apply Br.mk | apply Gd.mk) <;> (intro hb; first | (exact absurd hb (by decide)) | exact Bool.noConfusion (hb.symm.trans (by assumption) : true = false) | exact Bool.noConfusion (hb.symm.trans (by assumption) : false = true) | (simp only [decide_eq_true_eq, decide_eq_false_iff_not, beq_iff_eq, bne_iff_ne, beq_eq_false_iff_ne, bne_eq_false_iff_eq, Bool.not_eq_true', Bool.not_eq_false', Int.not_lt, Int.not_le, ge_iff_le, gt_iff_lt, ne_eq, Classical.not_not] at hb; first | (exfalso; omega) | skip) | skip)))); (all_goals (try (conv => whnf)))
  all_goals
    apply fin_pure
    (focus rfl)
    simp only [mkRes, mvN]
    first
      | (rw [if_pos (by omega)]; done)
      | (rw [if_neg (by omega)]; done)
/-- The status behind a trap, and behind the return from it. -/
def trapS (s : Nat) : Nat := 32 * (s / 32) + (1 + 4 * (s / 4 % 2) + 8 * (s % 2) + 16 * (s / 2 % 2))
def retS (s : Nat) : Nat := 32 * (s / 32) + (s / 8 % 2 + 2 * (s / 16 % 2) + 4 * (s / 4 % 2) + 8 * (s / 8 % 2) + 16 * (s / 16 % 2))
theorem trapS_lt (s : Nat) (hs : s < 4294967296) : trapS s < 4294967296 := by unfold trapS; omega
theorem retS_lt (s : Nat) (hs : s < 4294967296) : retS s < 4294967296 := by unfold retS; omega
theorem mv_lo (h l f t : Nat) (hl : l < 32) (hf : f < 32) (ht : t < 32) (hs : 32 * h + l < 4294967296) : mvN (32 * h + l) f t = 32 * h + (if l &&& f = 0 then l &&& (31 - t) else l ||| t) := by
  unfold mvN
  rw [lo_and h l f hl hf, lo_or h l t hl ht, lo_not h l t hl ht hs]
  split <;> rfl
theorem mvl_lt (l f t : Nat) (hl : l < 32) (ht : t < 32) : (if l &&& f = 0 then l &&& (31 - t) else l ||| t) < 32 := by
  split
  · exact Nat.lt_of_le_of_lt Nat.and_le_left hl
  · exact Nat.or_lt_two_pow (n := 5) (by simpa using hl) (by simpa using ht)
set_option maxRecDepth 100000 in
theorem trap_low : ∀ l : Nat, l < 32 → ((if (if l &&& 1 = 0 then l &&& (31 - 8) else l ||| 8) &&& 2 = 0 then (if l &&& 1 = 0 then l &&& (31 - 8) else l ||| 8) &&& (31 - 16) else (if l &&& 1 = 0 then l &&& (31 - 8) else l ||| 8) ||| 16) ||| 1) &&& (31 - 2) = 1 + 4 * (l / 4 % 2) + 8 * (l % 2) + 16 * (l / 2 % 2) := by decide
set_option maxRecDepth 100000 in
theorem ret_low : ∀ l : Nat, l < 32 → (if (if l &&& 8 = 0 then l &&& (31 - 1) else l ||| 1) &&& 16 = 0 then (if l &&& 8 = 0 then l &&& (31 - 1) else l ||| 1) &&& (31 - 2) else (if l &&& 8 = 0 then l &&& (31 - 1) else l ||| 1) ||| 2) = l / 8 % 2 + 2 * (l / 16 % 2) + 4 * (l / 4 % 2) + 8 * (l / 8 % 2) + 16 * (l / 16 % 2) := by decide
set_option maxRecDepth 100000 in
theorem rtrap_low : ∀ l : Nat, l < 32 → ((((l &&& (31 - 24)) ||| (if l &&& 1 = 0 then 0 else 8)) ||| (if l &&& 2 = 0 then 0 else 16)) &&& (31 - 2)) ||| 1 = 1 + 4 * (l / 4 % 2) + 8 * (l % 2) + 16 * (l / 2 % 2) := by decide
set_option maxRecDepth 100000 in
theorem rret_low : ∀ l : Nat, l < 32 → ((l &&& (31 - 3)) ||| (if l &&& 8 = 0 then 0 else 1)) ||| (if l &&& 16 = 0 then 0 else 2) = l / 8 % 2 + 2 * (l / 16 % 2) + 4 * (l / 4 % 2) + 8 * (l / 8 % 2) + 16 * (l / 16 % 2) := by decide
theorem split5 (s : Nat) : ∃ h l, l < 32 ∧ s = 32 * h + l := ⟨s / 32, s % 32, Nat.mod_lt _ (by omega), by omega⟩
theorem trap_ok (s : Nat) (hs : s < 4294967296) : (mvN (mvN s 1 8) 2 16 ||| 1) &&& (4294967295 - 2) = trapS s := by
  obtain ⟨h, l, hl, rfl⟩ := split5 s
  have k1 := mvl_lt l 1 8 hl (by omega)
  have k2 := mvl_lt _ 2 16 k1 (by omega)
  have k3 := or5 k2 (show 1 < 32 by omega)
  rw [mv_lo h l 1 8 hl (by omega) (by omega) hs, mv_lo h _ 2 16 k1 (by omega) (by omega) (by omega), lo_or h _ 1 k2 (by omega), lo_not h _ 2 k3 (by omega) (by omega), trap_low l hl]
  unfold trapS; omega
theorem ret_ok (s : Nat) (hs : s < 4294967296) : mvN (mvN s 8 1) 16 2 = retS s := by
  obtain ⟨h, l, hl, rfl⟩ := split5 s
  have k1 := mvl_lt l 8 1 hl (by omega)
  rw [mv_lo h l 8 1 hl (by omega) (by omega) hs, mv_lo h _ 16 2 k1 (by omega) (by omega) (by omega), ret_low l hl]
  unfold retS; omega
theorem rtrap_ok (s : Nat) (hs : s < 4294967296) : ((((s &&& (4294967295 - 24)) ||| (if s &&& 1 = 0 then 0 else 8)) ||| (if s &&& 2 = 0 then 0 else 16)) &&& (4294967295 - 2)) ||| 1 = trapS s := by
  obtain ⟨h, l, hl, rfl⟩ := split5 s
  have k0 : l &&& (31 - 24) < 32 := and5 hl
  have i1 : (if l &&& 1 = 0 then 0 else 8) < 32 := ite5 (by omega) (by omega)
  have i2 : (if l &&& 2 = 0 then 0 else 16) < 32 := ite5 (by omega) (by omega)
  have k1 := or5 k0 i1
  have k2 := or5 k1 i2
  rw [lo_and h l 1 hl (by omega), lo_and h l 2 hl (by omega), lo_not h l 24 hl (by omega) hs, lo_or h _ _ k0 i1, lo_or h _ _ k1 i2, lo_not h _ 2 k2 (by omega) (by omega), lo_or h _ 1 (and5 k2) (by omega), rtrap_low l hl]
  unfold trapS; omega
theorem rret_ok (s : Nat) (hs : s < 4294967296) : ((s &&& (4294967295 - 3)) ||| (if s &&& 8 = 0 then 0 else 1)) ||| (if s &&& 16 = 0 then 0 else 2) = retS s := by
  obtain ⟨h, l, hl, rfl⟩ := split5 s
  have k0 : l &&& (31 - 3) < 32 := and5 hl
  have i1 : (if l &&& 8 = 0 then 0 else 1) < 32 := ite5 (by omega) (by omega)
  have i2 : (if l &&& 16 = 0 then 0 else 2) < 32 := ite5 (by omega) (by omega)
  have k1 := or5 k0 i1
  rw [lo_and h l 8 hl (by omega), lo_and h l 16 hl (by omega), lo_not h l 3 hl (by omega) hs, lo_or h _ _ k0 i1, lo_or h _ _ k1 i2, rret_low l hl]
  unfold retS; omega
/-- A processor's cells. -/
def cpuC (x : List Nat) (pc : Nat) (c : List Nat) : List SV := wsv x ++ (.int .u32 pc :: wsv c)
theorem len16 {x : List Nat} (h : x.length = 16) : ∃ x0 x1 x2 x3 x4 x5 x6 x7 x8 x9 x10 x11 x12 x13 x14 x15 : Nat, x = [x0, x1, x2, x3, x4, x5, x6, x7, x8, x9, x10, x11, x12, x13, x14, x15] := by
  match x, h with
  | [x0, x1, x2, x3, x4, x5, x6, x7, x8, x9, x10, x11, x12, x13, x14, x15], _ => exact ⟨x0, x1, x2, x3, x4, x5, x6, x7, x8, x9, x10, x11, x12, x13, x14, x15, rfl⟩
theorem len8 {x : List Nat} (h : x.length = 8) : ∃ x0 x1 x2 x3 x4 x5 x6 x7 : Nat, x = [x0, x1, x2, x3, x4, x5, x6, x7] := by
  match x, h with
  | [x0, x1, x2, x3, x4, x5, x6, x7], _ => exact ⟨x0, x1, x2, x3, x4, x5, x6, x7, rfl⟩
def trapC (x : List Nat) (pc : Nat) (c : List Nat) (cause : Int) (bad : Nat) : List SV :=
  cpuC x (c.getD 1 0) [trapS (c.getD 0 0), c.getD 1 0, pc, (cause % 4294967296).toNat, bad, c.getD 5 0, c.getD 6 0, c.getD 7 0]
def retC (x : List Nat) (pc : Nat) (c : List Nat) : List SV := cpuC x (c.getD 2 0) (c.set 0 (retS (c.getD 0 0)))
theorem w32t (z : Int) : IntKind.u32.wrap z = ((z % 4294967296).toNat : Int) := by rw [wu32']; omega
end Go.Proofs.Ytckdamhnmcmbbaa
