/- Parts of the abstract machine and of its walks, several texts in one. -/
import Derived.Test.YtcaddlighhiepaaIsa0
/- Arithmetic: Divide, Alu. -/
namespace Go.Proofs.Ytcaddlighhiepaa
open Go Go.RowKit
set_option linter.unusedSimpArgs false
set_option linter.unusedVariables false

def sgn (a : Nat) : Int := if a < 2147483648 then (a : Int) else (a : Int) - 4294967296
theorem sgn_wrap (a : Nat) (ha : a < 4294967296) : IntKind.i32.wrap (a : Int) = sgn a := by
  unfold IntKind.wrap sgn
  simp only [IntKind.signed, IntKind.bits, Bool.true_and, decide_eq_true_eq]
  by_cases h : a < 2147483648
  · rw [if_pos h, if_neg (by simp; omega)]; omega
  · rw [if_neg h, if_pos (by simp; omega)]; omega
theorem sgn_rng (a : Nat) (ha : a < 4294967296) : -2147483648 ≤ sgn a ∧ sgn a < 2147483648 := by unfold sgn; split <;> omega
theorem sgn_ne {b : Nat} (hb : b < 4294967296) (h : ((b : Nat) : Int) ≠ 0) : sgn b ≠ 0 := by unfold sgn; split <;> omega
theorem uw_i32 (z : Int) : IntKind.u32.wrap (IntKind.i32.wrap z) = z % 4294967296 := by
  rw [wu32']
  have e : IntKind.i32.wrap z = if z % 4294967296 ≥ 2147483648 then z % 4294967296 - 4294967296 else z % 4294967296 := by
    unfold IntKind.wrap
    simp [IntKind.signed, IntKind.bits]
  rw [e]; split <;> omega
theorem uw_i64 (z : Int) : IntKind.u32.wrap (IntKind.i64.wrap z) = z % 4294967296 := by
  rw [wu32', IntKind.wrap_i64]; omega
/-- Quotient and remainder. -/
def dvQ (a b : Nat) : Int := if b = 0 then 4294967295 else (sgn a).tdiv (sgn b) % 4294967296
def dvR (a b : Nat) : Int := if b = 0 then (a : Int) else (sgn a).tmod (sgn b) % 4294967296
set_option maxRecDepth 100000 in
theorem divide_fn (a b : Nat) (ha : a < 4294967296) (hb0 : b < 4294967296) : Fn Try.prog 91 [.s (.int .u32 a), .s (.int .u32 b)] [] (· = ⟨.tup [.s (.int .u32 (dvQ a b)), .s (.int .u32 (dvR a b))], [], []⟩) := by
  refine fn_of_vc mixed tys_ok _ _ Try.func91 (by kernel_rfl) rfl Try.ntmps91 (by rw [Try.results91]) rfl ?_; dsimp only [argTm, argHl, Nat.zero_add, Nat.reduceAdd, List.length_nil, List.length_cons]
  (repeat' ((conv => whnf); first | ((with_reducible apply Vl.mk (α := Int)); · first | exact uw_i32 _ | exact sgn_wrap _ ha | exact sgn_wrap _ hb0)  |  (apply Sd.mk; · exact sgn_ne hb0 (by omega)) | (with_reducible apply sd_draw; · kernel_rfl) | (apply Sd.mk; · exact aSd) | ((with_reducible apply Vl.mk (α := Int)); · exact aAr) | ((with_reducible first | apply Vl.mk (α := Bool) | apply Vl.mk (α := Nat) | apply Vl.mk (α := ByteArray) | apply Ge.mk (α := Row) | apply Ge.mk (α := SV) | apply Ge.mk (α := AV)); · exact rfl) | (refine And.intro rfl ?_) | ((with_reducible first | apply Vl.mk (α := List SV) | apply Vl.mk (α := Ef) | apply Vl.mk (α := TV) | apply Ge.mk (α := List SV) | apply Sg.mk | apply Sk.mk); · exact aCl) | ((first | apply Br.mk | apply Gd.mk) <;> (intro hb; first | exact aKl hb | (simp only [d1, d2, beq_iff_eq, bne_iff_ne, d3, d4, d5, d6, Int.not_lt, Int.not_le, ge_iff_le, gt_iff_lt, ne_eq, d7] at hb; first | (exfalso; omega) | skip) | skip)))); (all_goals (try (conv => whnf)))
  all_goals
    refine fin_pure rfl ?_
    simp only [mkRes]
    first
      | (rw [dvQ, dvR, if_pos (by omega), if_pos (by omega)]; done)
      | (rw [dvQ, dvR, if_neg (by omega), if_neg (by omega)]; done)
      | (obtain rfl : a = 2147483648 := by omega
         obtain rfl : b = 4294967295 := by omega
         rfl)
set_option maxRecDepth 100000 in
theorem rdivide_fn (a b : Nat) (ha : a < 4294967296) (hb0 : b < 4294967296) : Fn Try.prog 89 [.s (.int .u32 a), .s (.int .u32 b)] [] (· = ⟨.tup [.s (.int .u32 (dvQ a b)), .s (.int .u32 (dvR a b))], [], []⟩) := by
  have ra := sgn_rng a ha
  have rb := sgn_rng b hb0
  refine fn_of_vc mixed tys_ok _ _ Try.func89 (by kernel_rfl) rfl Try.ntmps89 (by rw [Try.results89]) rfl ?_; dsimp only [argTm, argHl, Nat.zero_add, Nat.reduceAdd, List.length_nil, List.length_cons]
  (repeat' ((conv => whnf); first | ((with_reducible apply Vl.mk (α := Int)); · first | exact uw_i64 _ | exact sgn_wrap _ ha | exact sgn_wrap _ hb0)  |  (apply Sd.mk; · exact sgn_ne hb0 (by omega)) | (with_reducible apply sd_draw; · kernel_rfl) | (apply Sd.mk; · exact aSd) | ((with_reducible apply Vl.mk (α := Int)); · exact aAr) | ((with_reducible first | apply Vl.mk (α := Bool) | apply Vl.mk (α := Nat) | apply Vl.mk (α := ByteArray) | apply Ge.mk (α := Row) | apply Ge.mk (α := SV) | apply Ge.mk (α := AV)); · exact rfl) | (refine And.intro rfl ?_) | ((with_reducible first | apply Vl.mk (α := List SV) | apply Vl.mk (α := Ef) | apply Vl.mk (α := TV) | apply Ge.mk (α := List SV) | apply Sg.mk | apply Sk.mk); · exact aCl) | ((first | apply Br.mk | apply Gd.mk) <;> (intro hb; first | exact aKl hb | (simp only [d1, d2, beq_iff_eq, bne_iff_ne, d3, d4, d5, d6, Int.not_lt, Int.not_le, ge_iff_le, gt_iff_lt, ne_eq, d7] at hb; first | (exfalso; omega) | skip) | skip)))); (all_goals (try (conv => whnf)))
  all_goals
    refine fin_pure rfl ?_
    simp only [mkRes]
    first
      | (rw [dvQ, dvR, if_pos (by omega), if_pos (by omega)]; done)
      | (rw [dvQ, dvR, if_neg (by omega), if_neg (by omega)]; done)
      | (obtain rfl : a = 2147483648 := by omega
         obtain rfl : b = 4294967295 := by omega
         rfl)
set_option maxRecDepth 100000 in
theorem truth_fn (b : Bool) : Fn Try.prog 92 [.s (.bool b)] [] (· = ⟨.a (.s (.int .u32 (if b then 1 else 0))), [], []⟩) := by
  refine fn_of_vc mixed tys_ok _ _ Try.func92 (by kernel_rfl) rfl Try.ntmps92 (by rw [Try.results92]) rfl ?_; dsimp only [argTm, argHl, Nat.zero_add, Nat.reduceAdd, List.length_nil, List.length_cons]
  (repeat' ((conv => whnf); first | (with_reducible apply sd_draw; · kernel_rfl) | (apply Sd.mk; · exact aSd) | ((with_reducible apply Vl.mk (α := Int)); · exact aAr) | ((with_reducible first | apply Vl.mk (α := Bool) | apply Vl.mk (α := Nat) | apply Vl.mk (α := ByteArray) | apply Ge.mk (α := Row) | apply Ge.mk (α := SV) | apply Ge.mk (α := AV)); · exact rfl) | (refine And.intro rfl ?_) | ((with_reducible first | apply Vl.mk (α := List SV) | apply Vl.mk (α := Ef) | apply Vl.mk (α := TV) | apply Ge.mk (α := List SV) | apply Sg.mk | apply Sk.mk); · exact aCl) | ((first | apply Br.mk | apply Gd.mk) <;> (intro hb; first | exact aKl hb | (simp only [d1, d2, beq_iff_eq, bne_iff_ne, d3, d4, d5, d6, Int.not_lt, Int.not_le, ge_iff_le, gt_iff_lt, ne_eq, d7] at hb; first | (exfalso; omega) | skip) | skip)))); (all_goals (try (conv => whnf)))
  all_goals (subst hb; apply fin_pure; (focus rfl); rfl)
set_option maxRecDepth 100000 in
theorem bit_fn (b : Bool) : Fn Try.prog 90 [.s (.bool b)] [] (· = ⟨.a (.s (.int .u32 (if b then 1 else 0))), [], []⟩) := by
  refine fn_of_vc mixed tys_ok _ _ Try.func90 (by kernel_rfl) rfl Try.ntmps90 (by rw [Try.results90]) rfl ?_; dsimp only [argTm, argHl, Nat.zero_add, Nat.reduceAdd, List.length_nil, List.length_cons]
  (repeat' ((conv => whnf); first | (with_reducible apply sd_draw; · kernel_rfl) | (apply Sd.mk; · exact aSd) | ((with_reducible apply Vl.mk (α := Int)); · exact aAr) | ((with_reducible first | apply Vl.mk (α := Bool) | apply Vl.mk (α := Nat) | apply Vl.mk (α := ByteArray) | apply Ge.mk (α := Row) | apply Ge.mk (α := SV) | apply Ge.mk (α := AV)); · exact rfl) | (refine And.intro rfl ?_) | ((with_reducible first | apply Vl.mk (α := List SV) | apply Vl.mk (α := Ef) | apply Vl.mk (α := TV) | apply Ge.mk (α := List SV) | apply Sg.mk | apply Sk.mk); · exact aCl) | ((first | apply Br.mk | apply Gd.mk) <;> (intro hb; first | exact aKl hb | (simp only [d1, d2, beq_iff_eq, bne_iff_ne, d3, d4, d5, d6, Int.not_lt, Int.not_le, ge_iff_le, gt_iff_lt, ne_eq, d7] at hb; first | (exfalso; omega) | skip) | skip)))); (all_goals (try (conv => whnf)))
  all_goals (subst hb; apply fin_pure; (focus rfl); rfl)
def aluV (op : Int) (a b : Nat) : Int :=
  if op = 1 ∨ op = 16 then ((a : Int) + b) % 4294967296 else if op = 2 then ((a : Int) - b) % 4294967296
  else if op = 3 ∨ op = 17 then bits .and .u32 a b else if op = 4 ∨ op = 18 then bits .or .u32 a b else if op = 5 ∨ op = 19 then bits .xor .u32 a b
  else if op = 6 ∨ op = 20 then ((a * 2 ^ (b % 32) % 4294967296 : Nat) : Int) else if op = 7 ∨ op = 21 then ((a / 2 ^ (b % 32) : Nat) : Int)
  else if op = 8 ∨ op = 22 then sgn a / 2 ^ (b % 32) % 4294967296 else if op = 9 then (a : Int) * b % 4294967296
  else if op = 10 then dvQ a b else if op = 11 then dvR a b else if op = 12 ∨ op = 23 then (if decide (sgn a < sgn b) then 1 else 0)
  else if op = 13 then (if decide ((a : Int) < b) then 1 else 0) else 0
def aluB (op : Int) : Bool := decide (1 ≤ op ∧ op ≤ 13 ∨ 16 ≤ op ∧ op ≤ 23)
theorem and31 (b : Nat) (hb : b < 4294967296) : bits .and .u32 (b : Int) 31 = ((b % 32 : Nat) : Int) := and_mask b 5 hb (by omega)
theorem min32 (b : Nat) : min (((b % 32 : Nat) : Int)).toNat IntKind.u32.bits = b % 32 := by simp only [Int.toNat_natCast, IntKind.bits]; omega
theorem shl_v (a b : Nat) : IntKind.u32.wrap ((a : Int) * 2 ^ min (((b % 32 : Nat) : Int)).toNat IntKind.u32.bits) = ((a * 2 ^ (b % 32) % 4294967296 : Nat) : Int) := by
  rw [min32, wu32']; simp
theorem shr_v (a b : Nat) : (a : Int) / 2 ^ min (((b % 32 : Nat) : Int)).toNat IntKind.u32.bits = ((a / 2 ^ (b % 32) : Nat) : Int) := by
  rw [min32]; simp
theorem sar_v (a : Int) (b : Nat) : a / 2 ^ min (((b % 32 : Nat) : Int)).toNat IntKind.i32.bits = a / 2 ^ (b % 32) := by
  have : min (((b % 32 : Nat) : Int)).toNat IntKind.i32.bits = b % 32 := by simp only [Int.toNat_natCast, IntKind.bits]; omega
  rw [this]
set_option maxHeartbeats 4000000 in
set_option maxRecDepth 100000 in
theorem alu_fn (op : Int) (a b : Nat) (ha : a < 4294967296) (hb0 : b < 4294967296) : Fn Try.prog 81 [.s (.int .i64 op), .s (.int .u32 a), .s (.int .u32 b)] [] (· = ⟨.tup [.s (.int .u32 (aluV op a b)), .s (.bool (aluB op))], [], []⟩) := by
  refine fn_of_vc mixed tys_ok _ _ Try.func81 (by kernel_rfl) rfl Try.ntmps81 (by rw [Try.results81]) rfl ?_; dsimp only [argTm, argHl, Nat.zero_add, Nat.reduceAdd, List.length_nil, List.length_cons]
  (repeat' ((conv => whnf); first | (refine vcall_pure (f := 91) (divide_fn a b ha hb0) rfl ?_)  |  (refine vcall_pure (f := 92) (truth_fn _) rfl ?_)  |  ((with_reducible apply Vl.mk (α := Int)); · first | exact and31 _ hb0 | exact shl_v _ _ | exact shr_v _ _ | exact sar_v _ _ | exact sgn_wrap _ ha | exact sgn_wrap _ hb0) | (with_reducible apply sd_draw; · kernel_rfl) | (apply Sd.mk; · exact aSd) | ((with_reducible apply Vl.mk (α := Int)); · exact aAr) | ((with_reducible first | apply Vl.mk (α := Bool) | apply Vl.mk (α := Nat) | apply Vl.mk (α := ByteArray) | apply Ge.mk (α := Row) | apply Ge.mk (α := SV) | apply Ge.mk (α := AV)); · exact rfl) | (refine And.intro rfl ?_) | ((with_reducible first | apply Vl.mk (α := List SV) | apply Vl.mk (α := Ef) | apply Vl.mk (α := TV) | apply Ge.mk (α := List SV) | apply Sg.mk | apply Sk.mk); · exact aCl) | ((first | apply Br.mk | apply Gd.mk) <;> (intro hb; first | exact aKl hb | (simp only [d1, d2, beq_iff_eq, bne_iff_ne, d3, d4, d5, d6, Int.not_lt, Int.not_le, ge_iff_le, gt_iff_lt, ne_eq, d7] at hb; first | (exfalso; omega) | skip) | skip)))); (all_goals (try (conv => whnf)))
  all_goals
    apply fin_pure
    (focus rfl)
    simp only [mkRes]
    first
      | (subst hb; rfl)
      | (subst hb
         have e : aluV 2 a b = ((a : Int) - b) % 4294967296 := rfl
         rw [e, show (((a : Int) + (0 - (b : Int)) % 4294967296) % 4294967296) = ((a : Int) - b) % 4294967296 by omega]
         rfl)
      | (have e1 : aluV op a b = 0 := by
           unfold aluV
           repeat rw [if_neg (by omega)]
         have e2 : aluB op = false := by
           unfold aluB; rw [decide_eq_false_iff_not]; omega
         rw [e1, e2])
end Go.Proofs.Ytcaddlighhiepaa

/- The laws of arithmetic, in plain numbers. -/
namespace Go.Proofs.Ytcaddlighhiepaa
open Go Go.RowKit
set_option linter.unusedSimpArgs false
set_option linter.unusedVariables false
set_option linter.unusedSectionVars false

theorem bits_rng (op : BinOp) (a b : Int) : 0 ≤ bits op .u32 a b ∧ bits op .u32 a b < 4294967296 := by
  unfold bits
  rw [wu32']
  omega
theorem dvQ_rng (a b : Nat) : 0 ≤ dvQ a b ∧ dvQ a b < 4294967296 := by unfold dvQ; split <;> omega
theorem dvR_rng (a b : Nat) (ha : a < 4294967296) : 0 ≤ dvR a b ∧ dvR a b < 4294967296 := by unfold dvR; split <;> omega
def R32 (v : Int) : Prop := 0 ≤ v ∧ v < 4294967296
theorem r32_ite {c : Prop} [Decidable c] {x y : Int} (hx : R32 x) (hy : R32 y) : R32 (if c then x else y) := by split <;> assumption
theorem aluV_rng (op : Int) (a b : Nat) (ha : a < 4294967296) (hb : b < 4294967296) : 0 ≤ aluV op a b ∧ aluV op a b < 4294967296 := by
  have h1 := dvQ_rng a b
  have h2 := dvR_rng a b ha
  have h3 : a / 2 ^ (b % 32) < 4294967296 := Nat.lt_of_le_of_lt (Nat.div_le_self _ _) ha
  have b1 := bits_rng .and (a : Int) b
  have b2 := bits_rng .or (a : Int) b
  have b3 := bits_rng .xor (a : Int) b
  have b4 : R32 ((a / 2 ^ (b % 32) : Nat) : Int) := ⟨Int.natCast_nonneg _, by generalize a / 2 ^ (b % 32) = q at h3 ⊢; omega⟩
  show R32 (aluV op a b)
  unfold aluV
  repeat' first
    | exact b1
    | exact b2
    | exact b3
    | exact b4
    | exact h1
    | exact h2
    | apply r32_ite
    | exact ⟨by omega, by omega⟩
def aluN (op : Int) (a b : Nat) : Nat := (aluV op a b).toNat
theorem aluN_cast (op : Int) (a b : Nat) (ha : a < 4294967296) (hb : b < 4294967296) : ((aluN op a b : Nat) : Int) = aluV op a b := by
  have := aluV_rng op a b ha hb
  unfold aluN; omega
theorem aluN_lt (op : Int) (a b : Nat) (ha : a < 4294967296) (hb : b < 4294967296) : aluN op a b < 4294967296 := by
  have := aluV_rng op a b ha hb
  unfold aluN; omega
theorem bv32 (a : Nat) (ha : a < 4294967296) : (BitVec.ofInt 32 (a : Int)).toNat = a := by
  rw [BitVec.toNat_ofInt]; simp; omega
theorem and_n (a b : Nat) (ha : a < 4294967296) (hb : b < 4294967296) : bits .and .u32 (a : Int) b = ((a &&& b : Nat) : Int) := u32_and_nat a b ha hb
theorem or_n (a b : Nat) (ha : a < 4294967296) (hb : b < 4294967296) : bits .or .u32 (a : Int) b = ((a ||| b : Nat) : Int) := by
  have h : a ||| b < 2 ^ 32 := Nat.or_lt_two_pow (by simpa using ha) (by simpa using hb)
  show IntKind.u32.wrap (((BitVec.ofInt 32 (a : Int)) ||| (BitVec.ofInt 32 (b : Int))).toNat : Int) = _
  rw [BitVec.toNat_or, bv32 a ha, bv32 b hb, wu32']
  simp only [Nat.reducePow] at h; omega
theorem xor_n (a b : Nat) (ha : a < 4294967296) (hb : b < 4294967296) : bits .xor .u32 (a : Int) b = ((a ^^^ b : Nat) : Int) := by
  have h : a ^^^ b < 2 ^ 32 := Nat.xor_lt_two_pow (by simpa using ha) (by simpa using hb)
  show IntKind.u32.wrap (((BitVec.ofInt 32 (a : Int)) ^^^ (BitVec.ofInt 32 (b : Int))).toNat : Int) = _
  rw [BitVec.toNat_xor, bv32 a ha, bv32 b hb, wu32']
  simp only [Nat.reducePow] at h; omega
section
variable (a b : Nat) (ha : a < 4294967296) (hb : b < 4294967296)
include ha hb
theorem n_add : aluN 1 a b = (a + b) % 4294967296 := by
  have : aluV 1 a b = ((a : Int) + b) % 4294967296 := rfl
  unfold aluN; rw [this]; omega
theorem n_sub : aluN 2 a b = (a + (4294967296 - b)) % 4294967296 := by
  have : aluV 2 a b = ((a : Int) - b) % 4294967296 := rfl
  unfold aluN; rw [this]; omega
theorem n_and : aluN 3 a b = a &&& b := by
  have : aluV 3 a b = bits .and .u32 (a : Int) b := rfl
  unfold aluN; rw [this, and_n a b ha hb]; rfl
theorem n_or : aluN 4 a b = a ||| b := by
  have : aluV 4 a b = bits .or .u32 (a : Int) b := rfl
  unfold aluN; rw [this, or_n a b ha hb]; rfl
theorem n_xor : aluN 5 a b = a ^^^ b := by
  have : aluV 5 a b = bits .xor .u32 (a : Int) b := rfl
  unfold aluN; rw [this, xor_n a b ha hb]; rfl
theorem n_shl : aluN 6 a b = a * 2 ^ (b % 32) % 4294967296 := rfl
theorem n_shr : aluN 7 a b = a / 2 ^ (b % 32) := rfl
theorem n_mul : aluN 9 a b = a * b % 4294967296 := by
  have : aluV 9 a b = (a : Int) * b % 4294967296 := rfl
  unfold aluN; rw [this]
  have e : (a : Int) * b = ((a * b : Nat) : Int) := by simp
  rw [e]; omega
theorem n_slt : aluN 12 a b = if sgn a < sgn b then 1 else 0 := by
  have : aluV 12 a b = (if decide (sgn a < sgn b) then 1 else 0) := rfl
  unfold aluN; rw [this]; by_cases h : sgn a < sgn b <;> simp [h]
theorem n_sltu : aluN 13 a b = if a < b then 1 else 0 := by
  have : aluV 13 a b = (if decide ((a : Int) < b) then 1 else 0) := rfl
  unfold aluN; rw [this]
  by_cases h : a < b
  · have : (a : Int) < b := by omega
    simp [h, this]
  · have : ¬ (a : Int) < b := by omega
    simp [h, this]
theorem n_div : ((aluN 10 a b : Nat) : Int) = dvQ a b := aluN_cast 10 a b ha hb
theorem n_rem : ((aluN 11 a b : Nat) : Int) = dvR a b := aluN_cast 11 a b ha hb
theorem l1 : aluN 2 (aluN 1 a b) b = a := by
  have := aluN_lt 1 a b ha hb
  rw [n_sub _ b this hb, n_add a b ha hb]; omega
theorem l2 : aluN 1 a b = aluN 1 b a := by rw [n_add a b ha hb, n_add b a hb ha, Nat.add_comm]
theorem l4 : aluN 5 (aluN 5 a b) b = a := by
  rw [n_xor _ b (aluN_lt 5 a b ha hb) hb, n_xor a b ha hb, Nat.xor_assoc, Nat.xor_self, Nat.xor_zero]
theorem l5 : aluN 4 a b = aluN 5 (aluN 5 a b) (aluN 3 a b) := by
  rw [n_or a b ha hb, n_xor _ _ (aluN_lt 5 a b ha hb) (aluN_lt 3 a b ha hb), n_xor a b ha hb, n_and a b ha hb]
  apply Nat.eq_of_testBit_eq
  intro i
  simp only [Nat.testBit_or, Nat.testBit_xor, Nat.testBit_and]
  cases a.testBit i <;> cases b.testBit i <;> rfl
theorem sgn_mod : sgn a % 4294967296 = a := by unfold sgn; split <;> omega
theorem l6 : aluN 1 (aluN 9 (aluN 10 a b) b) (aluN 11 a b) = a := by
  have q := aluN_lt 10 a b ha hb
  have r := aluN_lt 11 a b ha hb
  have m := aluN_lt 9 _ b q hb
  rw [n_add _ _ m r, n_mul _ b q hb]
  have hq := n_div a b ha hb
  have hr := n_rem a b ha hb
  generalize aluN 10 a b = x at *
  generalize aluN 11 a b = y at *
  unfold dvQ at hq
  unfold dvR at hr
  by_cases h0 : b = 0
  · subst h0
    simp at hq hr
    simp
    omega
  · rw [if_neg h0] at hq hr
    have e : ((x : Int) * b + y) % 4294967296 = sgn a % 4294967296 := by
      have h1 : ((x : Int) * b) % 4294967296 = ((sgn a).tdiv (sgn b) * sgn b) % 4294967296 := by
        rw [hq, Int.mul_emod ((sgn a).tdiv (sgn b)) (sgn b), sgn_mod b b hb hb]
      rw [Int.add_emod, h1, hr, Int.emod_emod, ← Int.add_emod, Int.tdiv_mul_add_tmod]
    rw [sgn_mod a a ha ha] at e
    rw [← Int.natCast_mul] at e
    generalize x * b = p at *
    omega
theorem l8 : (aluN 13 a b + aluN 13 b a) % 4294967296 = aluN 13 0 (aluN 5 a b) := by
  rw [n_sltu a b ha hb, n_sltu b a hb ha, n_sltu 0 _ (by omega) (aluN_lt 5 a b ha hb), n_xor a b ha hb]
  by_cases h : a = b
  · subst h; simp
  · have hx : 0 < a ^^^ b := by
      rcases Nat.eq_zero_or_pos (a ^^^ b) with h0 | h0
      · have e : a = (a ^^^ b) ^^^ b := by rw [Nat.xor_assoc, Nat.xor_self, Nat.xor_zero]
        rw [h0, Nat.zero_xor] at e
        exact absurd e h
      · exact h0
    rcases Nat.lt_or_gt_of_ne h with h1 | h1
    · simp [h1, hx, Nat.not_lt.2 (Nat.le_of_lt h1)]
    · simp [h1, hx, Nat.not_lt.2 (Nat.le_of_lt h1)]
end
theorem l3 (a b c : Nat) (ha : a < 4294967296) (hb : b < 4294967296) (hc : c < 4294967296) : aluN 9 a (aluN 1 b c) = aluN 1 (aluN 9 a b) (aluN 9 a c) := by
  rw [n_mul a _ ha (aluN_lt 1 b c hb hc), n_add b c hb hc, n_add _ _ (aluN_lt 9 a b ha hb) (aluN_lt 9 a c ha hc), n_mul a b ha hb, n_mul a c ha hc]
  rw [Nat.mul_mod, Nat.mod_mod, ← Nat.mul_mod, Nat.mul_add, ← Nat.add_mod]
theorem flip31 (a : Nat) (ha : a < 4294967296) : (a ^^^ 2147483648 : Nat) = (sgn a + 2147483648).toNat := by
  have key : ∀ x y : Nat, x < 2147483648 → y < 2 → (2147483648 * y + x) ^^^ 2147483648 = 2147483648 * (1 - y) + x := by
    intro x y hx hy
    apply Nat.eq_of_testBit_eq
    intro i
    have e : 2147483648 = 2 ^ 31 := rfl
    rw [e, Nat.testBit_xor, Nat.testBit_two_pow_mul_add _ (by simpa using hx), Nat.testBit_two_pow_mul_add _ (by simpa using hx), Nat.testBit_two_pow]
    by_cases h : i < 31
    · simp [h, show ¬ 31 = i by omega]
    · simp only [h, if_false]
      obtain rfl | h31 := Nat.eq_or_lt_of_le (Nat.le_of_not_lt h)
      · rcases (by omega : y = 0 ∨ y = 1) with rfl | rfl <;> simp
      · have : ∀ z < 2, Nat.testBit z (i - 31) = false := fun z hz => Nat.testBit_lt_two_pow (Nat.lt_of_lt_of_le hz (by
          have : 2 ^ 1 ≤ 2 ^ (i - 31) := Nat.pow_le_pow_right (by omega) (by omega)
          simpa using this))
        rw [this y hy, this (1 - y) (by omega)]
        simp [show ¬ 31 = i by omega]
  unfold sgn
  by_cases h : a < 2147483648
  · have := key a 0 h (by omega)
    rw [if_pos h]; simp at this; omega
  · have := key (a - 2147483648) 1 (by omega) (by omega)
    rw [if_neg h]
    have e : 2147483648 * 1 + (a - 2147483648) = a := by omega
    rw [e] at this; omega
theorem l9 (a b : Nat) (ha : a < 4294967296) (hb : b < 4294967296) : aluN 12 a b = aluN 13 (a ^^^ 2147483648) (b ^^^ 2147483648) := by
  have r1 := sgn_rng a ha
  have r2 := sgn_rng b hb
  rw [n_slt a b ha hb, flip31 a ha, flip31 b hb, n_sltu _ _ (by omega) (by omega)]
  by_cases h : sgn a < sgn b
  · rw [if_pos h, if_pos (by omega)]
  · rw [if_neg h, if_neg (by omega)]
theorem l7 (a c : Nat) (ha : a < 4294967296) (hc : c < 4294967296) : aluN 6 (aluN 7 a c) c = aluN 3 a (aluN 6 4294967295 c) := by
  have h6 := aluN_lt 6 4294967295 c (by omega) hc
  rw [n_and a _ ha h6, n_shl _ c (aluN_lt 7 a c ha hc) hc, n_shr a c ha hc, n_shl _ c (by omega) hc]
  have hs : c % 32 < 32 := Nat.mod_lt _ (by omega)
  generalize c % 32 = s at hs
  have e32 : 4294967296 = 2 ^ 32 := rfl
  apply Nat.eq_of_testBit_eq
  intro i
  rw [e32, Nat.testBit_mod_two_pow, Nat.testBit_and, Nat.testBit_mod_two_pow]
  rw [Nat.mul_comm (a / 2 ^ s), Nat.mul_comm 4294967295, Nat.testBit_two_pow_mul, Nat.testBit_two_pow_mul, Nat.testBit_div_two_pow, show 4294967295 = 2 ^ 32 - 1 from rfl, Nat.testBit_two_pow_sub_one]
  by_cases h1 : i < 32
  · by_cases h2 : s ≤ i
    · simp [h1, h2, show i - s + s = i by omega, show i - s < 32 by omega]
    · simp [h1, h2]
  · simp [h1]
end Go.Proofs.Ytcaddlighhiepaa
