import Derived.Test.YtcaddlighhiepaaIsaC
import Derived.Test.YtcaddlighhiepaaFrmA
import Derived.Test.YtcaddlighhiepaaInsA
import Derived.Test.YtcaddlighhiepaaFns
/- Encoding, by the reference. -/
namespace Go.Proofs.Ytcaddlighhiepaa
open Go Go.RowKit
set_option linter.unusedSimpArgs false
set_option linter.unusedVariables false

def loV (f : Int) : Int := if f = 3 ∨ f = 7 then -32768 else 0
def hiV (f : Int) : Int := if f = 3 ∨ f = 7 then 32767 else if f = 4 ∨ f = 6 then 65535 else if f = 5 then 31 else if f = 8 then 7 else if f = 9 then 11 else 0
set_option maxRecDepth 100000 in
theorem bounds_fn (f : Int) : Fn Try.prog 74 [.s (.int .i64 f)] [] (· = ⟨.tup [.s (.int .i64 (loV f)), .s (.int .i64 (hiV f))], [], []⟩) := by
  refine fn_of_vc mixed tys_ok _ _ Try.func74 (by kernel_rfl) rfl Try.ntmps74 (by rw [Try.results74]) rfl ?_; dsimp only [argTm, argHl, Nat.zero_add, Nat.reduceAdd, List.length_nil, List.length_cons]
  (repeat' ((conv => whnf); first | (with_reducible apply sd_draw; · kernel_rfl) | (apply Sd.mk; · exact aSd) | ((with_reducible apply Vl.mk (α := Int)); · exact aAr) | ((with_reducible first | apply Vl.mk (α := Bool) | apply Vl.mk (α := Nat) | apply Vl.mk (α := ByteArray) | apply Ge.mk (α := Row) | apply Ge.mk (α := SV) | apply Ge.mk (α := AV)); · exact rfl) | (refine And.intro rfl ?_) | ((with_reducible first | apply Vl.mk (α := List SV) | apply Vl.mk (α := Ef) | apply Vl.mk (α := TV) | apply Ge.mk (α := List SV) | apply Sg.mk | apply Sk.mk); · exact aCl) | ((first | apply Br.mk | apply Gd.mk) <;> (intro hb; first | exact aKl hb | (simp only [d1, d2, beq_iff_eq, bne_iff_ne, d3, d4, d5, d6, Int.not_lt, Int.not_le, ge_iff_le, gt_iff_lt, ne_eq, d7] at hb; first | (exfalso; omega) | skip) | skip)))); (all_goals (try (conv => whnf)))
  all_goals first
    | (subst hb; exact fin_pure rfl rfl)
    | (apply fin_pure
       (focus rfl)
       simp only [mkRes]
       rw [loV, hiV, if_neg (by omega), if_neg (by omega), if_neg (by omega), if_neg (by omega), if_neg (by omega), if_neg (by omega)])
def rgV (r : Int) : Bool := decide (0 ≤ r ∧ r ≤ 15)
set_option maxRecDepth 100000 in
theorem rrg_fn (r : Int) : Fn Try.prog 73 [.s (.int .i64 r)] [] (· = ⟨.a (.s (.bool (rgV r))), [], []⟩) := by
  refine fn_of_vc mixed tys_ok _ _ Try.func73 (by kernel_rfl) rfl Try.ntmps73 (by rw [Try.results73]) rfl ?_; dsimp only [argTm, argHl, Nat.zero_add, Nat.reduceAdd, List.length_nil, List.length_cons]
  (repeat' ((conv => whnf); first | (with_reducible apply sd_draw; · kernel_rfl) | (apply Sd.mk; · exact aSd) | ((with_reducible apply Vl.mk (α := Int)); · exact aAr) | ((with_reducible first | apply Vl.mk (α := Bool) | apply Vl.mk (α := Nat) | apply Vl.mk (α := ByteArray) | apply Ge.mk (α := Row) | apply Ge.mk (α := SV) | apply Ge.mk (α := AV)); · exact rfl) | (refine And.intro rfl ?_) | ((with_reducible first | apply Vl.mk (α := List SV) | apply Vl.mk (α := Ef) | apply Vl.mk (α := TV) | apply Ge.mk (α := List SV) | apply Sg.mk | apply Sk.mk); · exact aCl) | ((first | apply Br.mk | apply Gd.mk) <;> (intro hb; first | exact aKl hb | (simp only [d1, d2, beq_iff_eq, bne_iff_ne, d3, d4, d5, d6, Int.not_lt, Int.not_le, ge_iff_le, gt_iff_lt, ne_eq, d7] at hb; first | (exfalso; omega) | skip) | skip)))); (all_goals (try (conv => whnf)))
  all_goals (apply fin_pure; (focus rfl); simp only [mkRes]; congr 3; grind [rgV])
def rvV (o a b c m : Int) : Bool :=
  decide (formV o ≠ 0 ∧ (0 ≤ a ∧ a ≤ 15) ∧ (0 ≤ b ∧ b ≤ 15) ∧ (0 ≤ c ∧ c ≤ 15) ∧ loV (formV o) ≤ m ∧ m ≤ hiV (formV o) ∧ (formV o = 2 ∨ c = 0) ∧ (formV o = 1 → a = 0) ∧ (b = 0 ∨ 2 ≤ formV o ∧ formV o ≤ 5))
set_option maxHeartbeats 4000000 in
set_option maxRecDepth 100000 in
theorem rvalid_fn (o a b c m : Int) (hm : -2147483648 ≤ m ∧ m ≤ 2147483647) : Fn Try.prog 50 [.agg (iv o a b c m)] [] (· = ⟨.a (.s (.bool (rvV o a b c m))), [], []⟩) := by
  unfold rvV
  have hf := form_fn o
  have hbd := bounds_fn (formV o)
  generalize formV o = f at *
  generalize loV f = lo at *
  generalize hiV f = hi at *
  refine fn_of_vc mixed tys_ok _ _ Try.func50 (by kernel_rfl) rfl Try.ntmps50 (by rw [Try.results50]) rfl ?_; dsimp only [argTm, argHl, Nat.zero_add, Nat.reduceAdd, List.length_nil, List.length_cons]
  unfold iv
  (repeat' ((conv => whnf); first | (refine vcall_pure (f := 53) (hf) rfl ?_)  |  (refine vcall_pure (f := 74) (hbd) rfl ?_)  |  (refine vcall_pure (f := 73) (rrg_fn _) rfl ?_) | (with_reducible apply sd_draw; · kernel_rfl) | (apply Sd.mk; · exact aSd) | ((with_reducible apply Vl.mk (α := Int)); · exact aAr) | ((with_reducible first | apply Vl.mk (α := Bool) | apply Vl.mk (α := Nat) | apply Vl.mk (α := ByteArray) | apply Ge.mk (α := Row) | apply Ge.mk (α := SV) | apply Ge.mk (α := AV)); · exact rfl) | (refine And.intro rfl ?_) | ((with_reducible first | apply Vl.mk (α := List SV) | apply Vl.mk (α := Ef) | apply Vl.mk (α := TV) | apply Ge.mk (α := List SV) | apply Sg.mk | apply Sk.mk); · exact aCl) | ((first | apply Br.mk | apply Gd.mk) <;> (intro hb; first | exact aKl hb | (simp only [d1, d2, beq_iff_eq, bne_iff_ne, d3, d4, d5, d6, Int.not_lt, Int.not_le, ge_iff_le, gt_iff_lt, ne_eq, d7] at hb; first | (exfalso; omega) | skip) | skip)))); (all_goals (try (conv => whnf)))
  all_goals
    apply fin_pure
    (focus rfl)
    simp only [mkRes]
    congr 3
    try simp only [rgV, decide_eq_true_eq, decide_eq_false_iff_not, Bool.not_eq_true', Bool.not_eq_false'] at *
    first
      | (refine (decide_eq_false ?_).symm; omega)
      | (refine (decide_eq_true ?_).symm; omega)
      | (rw [Bool.eq_iff_iff]; simp only [decide_eq_true_eq, beq_iff_eq]; omega)
/-- The word of an instruction. -/
def encV (o a b c m : Int) : Int := o * 16777216 + a * 1048576 + b * 65536 + m % 65536 + c
theorem or_dis (p q k : Nat) (h : q < 2 ^ k) : (2 ^ k * p) ||| q = 2 ^ k * p + q := (Nat.two_pow_add_eq_or_of_lt h p).symm
theorem sh_c (x : Int) (n : Nat) (hn : n ≤ 32) : x * 2 ^ min ((n : Nat) : Int).toNat IntKind.u32.bits = x * 2 ^ n := by
  have : min ((n : Nat) : Int).toNat IntKind.u32.bits = n := by simp only [Int.toNat_natCast, IntKind.bits]; omega
  rw [this]
theorem bv32' (a : Nat) (ha : a < 4294967296) : (BitVec.ofInt 32 (a : Int)).toNat = a := by
  rw [BitVec.toNat_ofInt]; simp; omega
theorem or_nn (a b : Nat) (ha : a < 4294967296) (hb : b < 4294967296) : bits .or .u32 (a : Int) b = ((a ||| b : Nat) : Int) := by
  have h : a ||| b < 2 ^ 32 := Nat.or_lt_two_pow (by simpa using ha) (by simpa using hb)
  show IntKind.u32.wrap (((BitVec.ofInt 32 (a : Int)) ||| (BitVec.ofInt 32 (b : Int))).toNat : Int) = _
  rw [BitVec.toNat_or, bv32' a ha, bv32' b hb, wu32']
  simp only [Nat.reducePow] at h; omega
/-- An or of parts that do not meet. -/
theorem or_sum (x y : Int) (k : Nat) (p q : Nat) (hx : x = ((2 ^ k * p : Nat) : Int)) (hy : y = (q : Int)) (hq : q < 2 ^ k) (h1 : 2 ^ k * p < 4294967296) (h2 : q < 4294967296) : bits .or .u32 x y = x + y := by
  subst hx hy
  rw [or_nn _ _ h1 h2, or_dis p q k hq]; simp
theorem form_rng {o : Int} (h : formV o ≠ 0) : 1 ≤ o ∧ o ≤ 64 := by
  by_cases h1 : 1 ≤ o ∧ o ≤ 64
  · exact h1
  · refine absurd ?_ h
    unfold formV
    repeat' first
      | rfl
      | (apply int_ite <;> intro _)
      | (exfalso; omega)
theorem lo_2 : loV 2 = 0 ∧ hiV 2 = 0 := ⟨rfl, rfl⟩
set_option maxHeartbeats 4000000 in
set_option maxRecDepth 100000 in
theorem encode_fn (o a b c m : Int) (hm : -2147483648 ≤ m ∧ m ≤ 2147483647) (hv : rvV o a b c m = true) : Fn Try.prog 25 [.agg (iv o a b c m)] [] (· = ⟨.tup [.s (.int .u32 (encV o a b c m)), .s (.bool true)], [], []⟩) := by
  have f1 := rvalid_fn o a b c m hm
  rw [hv] at f1
  have hv := of_decide_eq_true hv
  obtain ⟨v1, v2, v3, v4, v5, v6, v7, v8, v9⟩ := hv
  have ho := form_rng v1
  have hcm : c = 0 ∨ m = 0 := by
    rcases v7 with h | h
    · rw [h] at v5 v6; have := lo_2; right; omega
    · exact .inl h
  have w1 : IntKind.u32.wrap o = o := wu32 (by omega) (by omega)
  have w2 : IntKind.u32.wrap a = a := wu32 (by omega) (by omega)
  have w3 : IntKind.u32.wrap b = b := wu32 (by omega) (by omega)
  have w4 : IntKind.u32.wrap c = c := wu32 (by omega) (by omega)
  have w5 : IntKind.u32.wrap m = m % 4294967296 := wu32' m
  have s1 : IntKind.u32.wrap (o * 2 ^ min (Int.toNat 24) IntKind.u32.bits) = o * 16777216 := by
    rw [show (2 : Int) ^ min (Int.toNat 24) IntKind.u32.bits = 16777216 from rfl]; exact wu32 (by omega) (by omega)
  have s2 : IntKind.u32.wrap (a * 2 ^ min (Int.toNat 20) IntKind.u32.bits) = a * 1048576 := by
    rw [show (2 : Int) ^ min (Int.toNat 20) IntKind.u32.bits = 1048576 from rfl]; exact wu32 (by omega) (by omega)
  have s3 : IntKind.u32.wrap (b * 2 ^ min (Int.toNat 16) IntKind.u32.bits) = b * 65536 := by
    rw [show (2 : Int) ^ min (Int.toNat 16) IntKind.u32.bits = 65536 from rfl]; exact wu32 (by omega) (by omega)
  have e1 : bits .or .u32 (o * 16777216) (a * 1048576) = o * 16777216 + a * 1048576 := or_sum _ _ 24 o.toNat (a * 1048576).toNat (by simp only [Nat.reducePow]; omega) (by omega) (by simp only [Nat.reducePow]; omega) (by simp only [Nat.reducePow]; omega) (by omega)
  have e2 : bits .or .u32 (o * 16777216 + a * 1048576) (b * 65536) = o * 16777216 + a * 1048576 + b * 65536 := or_sum _ _ 20 (16 * o + a).toNat (b * 65536).toNat (by simp only [Nat.reducePow]; omega) (by omega) (by simp only [Nat.reducePow]; omega) (by simp only [Nat.reducePow]; omega) (by omega)
  have e3 : bits .and .u32 (m % 4294967296) 65535 = m % 65536 := by
    have := and_mask (m % 4294967296).toNat 16 (by omega) (by omega)
    rw [show (((m % 4294967296).toNat : Nat) : Int) = m % 4294967296 by omega] at this
    have e : bits .and .u32 (m % 4294967296) 65535 = (((m % 4294967296).toNat % 2 ^ 16 : Nat) : Int) := this
    rw [e]; simp only [Nat.reducePow]; omega
  have e4 : bits .or .u32 (o * 16777216 + a * 1048576 + b * 65536) (m % 65536) = o * 16777216 + a * 1048576 + b * 65536 + m % 65536 := or_sum _ _ 16 (256 * o + 16 * a + b).toNat (m % 65536).toNat (by simp only [Nat.reducePow]; omega) (by omega) (by simp only [Nat.reducePow]; omega) (by simp only [Nat.reducePow]; omega) (by omega)
  have e5 : bits .or .u32 (o * 16777216 + a * 1048576 + b * 65536 + m % 65536) c = encV o a b c m := by
    unfold encV
    rcases hcm with h | h
    · subst h
      exact or_sum _ _ 0 (o * 16777216 + a * 1048576 + b * 65536 + m % 65536).toNat 0 (by simp only [Nat.pow_zero]; omega) rfl (by simp) (by simp only [Nat.pow_zero]; omega) (by omega)
    · subst h
      exact or_sum _ _ 16 (256 * o + 16 * a + b).toNat c.toNat (by simp only [Nat.reducePow]; omega) (by omega) (by simp only [Nat.reducePow]; omega) (by simp only [Nat.reducePow]; omega) (by omega)
  refine fn_of_vc mixed tys_ok _ _ Try.func25 (by kernel_rfl) rfl Try.ntmps25 (by rw [Try.results25]) rfl ?_; dsimp only [argTm, argHl, Nat.zero_add, Nat.reduceAdd, List.length_nil, List.length_cons]
  unfold iv
  (repeat' ((conv => whnf); first | (refine vcall_pure (f := 50) (f1) rfl ?_)  |  ((with_reducible apply Vl.mk (α := Int)); · with_reducible first | exact w1 | exact w2 | exact w3 | exact w4 | exact w5 | exact s1 | exact s2 | exact s3 | exact e1 | exact e2 | exact e3 | exact e4 | exact e5) | (with_reducible apply sd_draw; · kernel_rfl) | (apply Sd.mk; · exact aSd) | ((with_reducible apply Vl.mk (α := Int)); · exact aAr) | ((with_reducible first | apply Vl.mk (α := Bool) | apply Vl.mk (α := Nat) | apply Vl.mk (α := ByteArray) | apply Ge.mk (α := Row) | apply Ge.mk (α := SV) | apply Ge.mk (α := AV)); · exact rfl) | (refine And.intro rfl ?_) | ((with_reducible first | apply Vl.mk (α := List SV) | apply Vl.mk (α := Ef) | apply Vl.mk (α := TV) | apply Ge.mk (α := List SV) | apply Sg.mk | apply Sk.mk); · exact aCl) | ((first | apply Br.mk | apply Gd.mk) <;> (intro hb; first | exact aKl hb | (simp only [d1, d2, beq_iff_eq, bne_iff_ne, d3, d4, d5, d6, Int.not_lt, Int.not_le, ge_iff_le, gt_iff_lt, ne_eq, d7] at hb; first | (exfalso; omega) | skip) | skip)))); (all_goals (try (conv => whnf)))
  all_goals exact fin_pure rfl rfl
end Go.Proofs.Ytcaddlighhiepaa

/- What is encoded is decoded; the instructions made from numbers are valid. -/
namespace Go.Proofs.Ytcaddlighhiepaa
open Go Go.RowKit
set_option linter.unusedSimpArgs false
set_option linter.unusedVariables false

set_option maxRecDepth 100000 in
theorem form_use : ∀ k : Nat, k < 65 → formV (k : Int) ≠ 0 → useOk k = true ∧ useA k = !(formV k == 1) ∧ useB k = decide (2 ≤ formV k ∧ formV k ≤ 5) ∧ useC k = (formV k == 2) ∧ useLo k = loV (formV k) ∧ useHi k = hiV (formV k) := by decide
theorem enc_lt {o a b c m : Int} (hv : rvV o a b c m = true) : 0 ≤ encV o a b c m ∧ encV o a b c m < 4294967296 := by
  obtain ⟨v1, v2, v3, v4, v5, v6, v7, v8, v9⟩ := of_decide_eq_true hv
  have ho := form_rng v1
  unfold encV; omega
theorem dec_enc {o a b c m : Int} {w : Nat} (hv : rvV o a b c m = true) (hw : (w : Int) = encV o a b c m) : dOp w = o ∧ dA w = a ∧ dB w = b ∧ dC w = c ∧ dM w = m ∧ dOk w = true := by
  obtain ⟨v1, v2, v3, v4, v5, v6, v7, v8, v9⟩ := of_decide_eq_true hv
  have ho := form_rng v1
  obtain ⟨u0, u1, u2, u3, u4, u5⟩ := form_use o.toNat (by omega) (by rw [Int.toNat_of_nonneg (by omega)]; exact v1)
  rw [Int.toNat_of_nonneg (by omega)] at u0 u1 u2 u3 u4 u5
  unfold encV at hw
  have hlo : loV (formV o) = -32768 ∧ hiV (formV o) = 32767 ∨ loV (formV o) = 0 ∧ hiV (formV o) ≤ 65535 := by
    unfold loV hiV
    by_cases h : formV o = 3 ∨ formV o = 7
    · simp [h]
    · simp only [h, if_false]; right; refine ⟨trivial, ?_⟩
      repeat' split
      all_goals omega
  have h2 : formV o = 2 → m = 0 := fun h => by
    rw [h] at v5 v6; have := lo_2; omega
  have d1 : dOp w = o := by unfold dOp; simp only [Nat.reducePow]; omega
  have d2 : dA w = a := by unfold dA; simp only [Nat.reducePow]; omega
  have d3 : dB w = b := by unfold dB; simp only [Nat.reducePow]; omega
  have d4 : ((dI w : Nat) : Int) = m % 65536 + c := by unfold dI; simp only [Nat.reducePow]; omega
  have d5 : dC w = c := by
    unfold dC
    rw [d1, u3]
    by_cases h : formV o = 2
    · have := h2 h; simp [h]; omega
    · simp [h]; omega
  have d6 : dM w = m := by
    unfold dM
    rw [d1, u3, u4]
    by_cases h : formV o = 2
    · have := h2 h; simp [h]; omega
    · have hc : c = 0 := by omega
      simp only [beq_eq_false_iff_ne.2 h, Bool.false_eq_true, if_false]
      rcases hlo with ⟨h3, h4⟩ | ⟨h3, h4⟩
      · rw [h3, if_pos (by omega)]; unfold sx; split <;> omega
      · rw [h3, if_neg (by omega)]; omega
  refine ⟨d1, d2, d3, d5, d6, ?_⟩
  unfold dOk validB
  rw [d1, d2, d3, d5, d6, u0, u1, u2, u3, u4, u5]
  simp only [Bool.true_and, Bool.and_eq_true, decide_eq_true_eq, ge_iff_le]
  refine ⟨⟨⟨⟨?_, ?_⟩, ?_⟩, v5⟩, v6⟩
  · by_cases h : formV o = 1
    · simp [h, regB, v8 h]
    · simp [beq_eq_false_iff_ne.2 h, regB]; omega
  · by_cases h : 2 ≤ formV o ∧ formV o ≤ 5
    · simp [h, regB]; omega
    · have : b = 0 := by omega
      simp [h, regB, this]
  · by_cases h : formV o = 2
    · simp [h, regB]; omega
    · have : c = 0 := by omega
      simp [beq_eq_false_iff_ne.2 h, regB, this]
/-- The fields of a number's instruction. -/
theorem inst_ok (n : Int) : ∃ o a b c m : Int, instV n = iv o a b c m ∧ rvV o a b c m = true ∧ -2147483648 ≤ m ∧ m ≤ 2147483647 ∧ o = io n := by
  have ho := io_ok n
  unfold opOk at ho
  have hk : 0 ≤ ik n ∧ ik n < 24 := by unfold ik; omega
  have hr : ∀ d, 0 ≤ ir n d ∧ ir n d < 6 := fun d => by unfold ir; omega
  have r1 := hr 256
  have r2 := hr 4096
  have r3 := hr 65536
  have hkm : 0 ≤ ik n * (mix n 1 / 1099511627776 % 2) ∧ ik n * (mix n 1 / 1099511627776 % 2) < 24 := by
    rcases (by omega : mix n 1 / 1099511627776 % 2 = 0 ∨ mix n 1 / 1099511627776 % 2 = 1) with e | e <;> rw [e] <;> omega
  unfold instV
  generalize io n = o at *
  generalize ik n = k at *
  generalize ir n 256 = A at *
  generalize ir n 4096 = B at *
  generalize ir n 65536 = C at *
  generalize k * (mix n 1 / 1099511627776 % 2) = kz at *
  have fin : ∀ (f a b c m : Int), formV o = f → (f ≠ 0 ∧ (0 ≤ a ∧ a ≤ 15) ∧ (0 ≤ b ∧ b ≤ 15) ∧ (0 ≤ c ∧ c ≤ 15) ∧ loV f ≤ m ∧ m ≤ hiV f ∧ (f = 2 ∨ c = 0) ∧ (f = 1 → a = 0) ∧ (b = 0 ∨ 2 ≤ f ∧ f ≤ 5)) → rvV o a b c m = true := fun f a b c m hf h => by
    unfold rvV; rw [hf]; exact decide_eq_true h
  have fv : ∀ f : Int, (formV o = f) ↔ (formV o = f) := fun f => Iff.rfl
  by_cases c1 : o ≤ 13
  · rw [if_pos c1]
    exact ⟨o, A, B, C, 0, rfl, fin 2 _ _ _ _ (by unfold formV; rw [if_pos (by omega)]) ⟨by omega, by omega, by omega, by omega, by decide, by decide, by omega, by omega, by omega⟩, by omega, by omega, rfl⟩
  rw [if_neg c1]
  by_cases c2 : 40 ≤ o ∧ o ≤ 48
  · rw [if_pos c2]
    by_cases c3 : o = 48
    · rw [if_pos c3]
      exact ⟨o, A, 0, 0, k - 12, rfl, fin 7 _ _ _ _ (by subst c3; rfl) ⟨by omega, by omega, by omega, by omega, by show (-32768 : Int) ≤ _; omega, by show _ ≤ (32767 : Int); omega, by omega, by omega, by omega⟩, by omega, by omega, rfl⟩
    · rw [if_neg c3]
      exact ⟨o, A, B, 0, k - 12, rfl, fin 3 _ _ _ _ (by unfold formV; rw [if_neg (by omega), if_pos (by omega)]) ⟨by omega, by omega, by omega, by omega, by show (-32768 : Int) ≤ _; omega, by show _ ≤ (32767 : Int); omega, by omega, by omega, by omega⟩, by omega, by omega, rfl⟩
  rw [if_neg c2]
  by_cases c4 : o = 16 ∨ o = 23 ∨ 32 ≤ o ∧ o ≤ 36 ∨ o = 49
  · rw [if_pos c4]
    exact ⟨o, A, B, 0, 8 * k - 32, rfl, fin 3 _ _ _ _ (by unfold formV; rw [if_neg (by omega), if_pos (by omega)]) ⟨by omega, by omega, by omega, by omega, by show (-32768 : Int) ≤ _; omega, by show _ ≤ (32767 : Int); omega, by omega, by omega, by omega⟩, by omega, by omega, rfl⟩
  rw [if_neg c4]
  by_cases c5 : o = 24
  · rw [if_pos c5]
    exact ⟨o, A, 0, 0, kz, rfl, fin 6 _ _ _ _ (by subst c5; rfl) ⟨by omega, by omega, by omega, by omega, by show (0 : Int) ≤ _; omega, by show _ ≤ (65535 : Int); omega, by omega, by omega, by omega⟩, by omega, by omega, rfl⟩
  rw [if_neg c5]
  by_cases c6 : 17 ≤ o ∧ o ≤ 22
  · rw [if_pos c6]
    by_cases c7 : o ≤ 19
    · exact ⟨o, A, B, 0, k, rfl, fin 4 _ _ _ _ (by unfold formV; rw [if_neg (by omega), if_neg (by omega), if_pos (by omega)]) ⟨by omega, by omega, by omega, by omega, by show (0 : Int) ≤ _; omega, by show _ ≤ (65535 : Int); omega, by omega, by omega, by omega⟩, by omega, by omega, rfl⟩
    · exact ⟨o, A, B, 0, k, rfl, fin 5 _ _ _ _ (by unfold formV; rw [if_neg (by omega), if_neg (by omega), if_neg (by omega), if_pos (by omega)]) ⟨by omega, by omega, by omega, by omega, by show (0 : Int) ≤ _; omega, by show _ ≤ (31 : Int); omega, by omega, by omega, by omega⟩, by omega, by omega, rfl⟩
  rw [if_neg c6]
  by_cases c8 : o = 58 ∨ o = 59
  · rw [if_pos c8]
    exact ⟨o, A, 0, 0, k % 8, rfl, fin 8 _ _ _ _ (by rcases c8 with rfl | rfl <;> rfl) ⟨by omega, by omega, by omega, by omega, by show (0 : Int) ≤ _; omega, by show _ ≤ (7 : Int); omega, by omega, by omega, by omega⟩, by omega, by omega, rfl⟩
  rw [if_neg c8]
  by_cases c9 : o = 60 ∨ o = 61
  · rw [if_pos c9]
    exact ⟨o, A, 0, 0, k % 12, rfl, fin 9 _ _ _ _ (by rcases c9 with rfl | rfl <;> rfl) ⟨by omega, by omega, by omega, by omega, by show (0 : Int) ≤ _; omega, by show _ ≤ (11 : Int); omega, by omega, by omega, by omega⟩, by omega, by omega, rfl⟩
  rw [if_neg c9]
  exact ⟨o, 0, 0, 0, 0, rfl, fin 1 _ _ _ _ (by
    have : o = 56 ∨ o = 57 ∨ o = 62 ∨ o = 63 ∨ o = 64 := by omega
    rcases this with rfl | rfl | rfl | rfl | rfl <;> rfl) ⟨by omega, by omega, by omega, by omega, by decide, by decide, by omega, by omega, by omega⟩, by omega, by omega, rfl⟩
end Go.Proofs.Ytcaddlighhiepaa

/- Words of instructions made from numbers; blocks of valid words. -/
namespace Go.Proofs.Ytcaddlighhiepaa
open Go Go.RowKit
set_option linter.unusedSimpArgs false
set_option linter.unusedVariables false

def encI : List SV → Nat
  | [.int _ o, .int _ a, .int _ b, .int _ c, .int _ m] => (encV o a b c m).toNat
  | _ => 0
theorem encI_fn (n : Int) : Fn Try.prog 25 [.agg (instV n)] [] (· = ⟨.tup [.s (.int .u32 (encI (instV n) : Nat)), .s (.bool true)], [], []⟩) ∧ encI (instV n) < 4294967296 ∧ ∃ o a b c m : Int, instV n = iv o a b c m := by
  obtain ⟨o, a, b, c, m, h1, h2, h3, h4, h5⟩ := inst_ok n
  have he := enc_lt h2
  have e : encI (instV n) = (encV o a b c m).toNat := by rw [h1]; rfl
  rw [e, h1, Int.toNat_of_nonneg he.1]
  exact ⟨encode_fn o a b c m ⟨h3, h4⟩ h2, by omega, o, a, b, c, m, rfl⟩
end Go.Proofs.Ytcaddlighhiepaa

/- Decoding by the reference, of any word. -/
namespace Go.Proofs.Ytcaddlighhiepaa
open Go Go.RowKit
set_option linter.unusedSimpArgs false
set_option linter.unusedVariables false

theorem e_op (w : Nat) (hw : w < 4294967296) : IntKind.i64.wrap ((w : Int) / 2 ^ min (Int.toNat 24) IntKind.u32.bits) = dOp w := by
  rw [show (2 : Int) ^ min (Int.toNat 24) IntKind.u32.bits = 16777216 from rfl, wi64 (by omega) (by omega)]
  unfold dOp; simp only [Nat.reducePow]; omega
theorem e_a (w : Nat) (hw : w < 4294967296) : bits .and .u32 ((w : Int) / 2 ^ min (Int.toNat 20) IntKind.u32.bits) 15 = dA w := field_and w 20 4 hw (by omega) (by omega)
theorem e_b (w : Nat) (hw : w < 4294967296) : bits .and .u32 ((w : Int) / 2 ^ min (Int.toNat 16) IntKind.u32.bits) 15 = dB w := field_and w 16 4 hw (by omega) (by omega)
theorem e_i (w : Nat) (hw : w < 4294967296) : bits .and .u32 (w : Int) 65535 = ((dI w : Nat) : Int) := by
  have := and_mask w 16 hw (by omega)
  unfold dI
  rw [Nat.pow_zero, Nat.div_one]; exact this
theorem e_keep (w : Int) (l : Int) : w / 2 ^ min l.toNat IntKind.u32.bits = w / 2 ^ min l.toNat IntKind.u32.bits := rfl
theorem e_sx (x : Nat) (hx : x < 65536) : IntKind.i32.wrap (IntKind.i16.wrap (x : Int)) = sx x := by
  have e : IntKind.i16.wrap (x : Int) = sx x := by
    unfold IntKind.wrap sx
    simp only [IntKind.signed, IntKind.bits, Bool.true_and, decide_eq_true_eq]
    by_cases h : x < 32768
    · rw [if_pos h, if_neg (by simp; omega)]; omega
    · rw [if_neg h, if_pos (by simp; omega)]; omega
  rw [e]
  have : -32768 ≤ sx x ∧ sx x ≤ 32767 := by unfold sx; split <;> omega
  exact wi32 (by omega) (by omega)
theorem form_rng9 (o : Int) : 0 ≤ formV o ∧ formV o ≤ 9 := by
  unfold formV
  repeat' split
  all_goals omega
theorem form_none (o : Int) (h : formV o = 0) : useOk o = false := by
  unfold useOk useA
  rw [Bool.or_eq_false_iff, decide_eq_false_iff_not, decide_eq_false_iff_not]
  unfold formV at h
  constructor
  · intro h1
    repeat' split at h
    all_goals omega
  · intro h1
    repeat' split at h
    all_goals omega
/-- What is decoded may be exactly if both say so. -/
theorem rv_dok (w : Nat) (hw : w < 4294967296) (hF : formV (dOp w) ≠ 0) : rvV (dOp w) (dA w) (dB w) (dC w) (dM w) = dOk w := by
  have ho := form_rng hF
  obtain ⟨u0, u1, u2, u3, u4, u5⟩ := form_use (dOp w).toNat (by omega) (by rw [Int.toNat_of_nonneg (by omega)]; exact hF)
  rw [Int.toNat_of_nonneg (by omega)] at u0 u1 u2 u3 u4 u5
  have ha : 0 ≤ dA w ∧ dA w ≤ 15 := by unfold dA; simp only [Nat.reducePow]; omega
  have hb : 0 ≤ dB w ∧ dB w ≤ 15 := by unfold dB; simp only [Nat.reducePow]; omega
  have hc0 : 0 ≤ dC w := by unfold dC; split <;> omega
  have hcz : formV (dOp w) ≠ 2 → dC w = 0 := fun h => by unfold dC; rw [u3, if_neg (by simp [h])]
  have hr := form_rng9 (dOp w)
  unfold rvV dOk validB
  rw [u0, u1, u2, u3, u4, u5, Bool.true_and, Bool.eq_iff_iff]
  generalize formV (dOp w) = F at *
  generalize dA w = a at *
  generalize dB w = b at *
  generalize dC w = c at *
  generalize dM w = m at *
  generalize loV F = lo at *
  generalize hiV F = hi at *
  clear u0 u1 u2 u3 u4 u5
  have hcs : F = 1 ∨ F = 2 ∨ (3 ≤ F ∧ F ≤ 5) ∨ 6 ≤ F := by omega
  simp only [Bool.and_eq_true, decide_eq_true_eq, Bool.true_and]
  rcases hcs with h | h | h | h
  · subst h
    have := hcz (by omega)
    subst this
    simp only [show ((1 : Int) == 1) = true from rfl, show ((1 : Int) == 2) = false from rfl, Bool.not_true, regB, beq_iff_eq, show decide ((2 : Int) ≤ 1 ∧ (1 : Int) ≤ 5) = false from rfl, Decidable.imp_iff_not_or, true_or, or_true, true_and, and_true, not_true_eq_false, false_or]
    omega
  · subst h
    simp only [show ((2 : Int) == 1) = false from rfl, show ((2 : Int) == 2) = true from rfl, Bool.not_false, regB, Bool.and_eq_true, decide_eq_true_eq, show decide ((2 : Int) ≤ 2 ∧ (2 : Int) ≤ 5) = true from rfl, Decidable.imp_iff_not_or, true_or, or_true, true_and, and_true, not_true_eq_false, false_or]
    omega
  · have := hcz (by omega)
    subst this
    have e1 : (F == 1) = false := by simp; omega
    have e2 : (F == 2) = false := by simp; omega
    have e3 : decide ((2 : Int) ≤ F ∧ F ≤ 5) = true := decide_eq_true (by omega)
    simp only [e1, e2, e3, Bool.not_false, regB, Bool.and_eq_true, decide_eq_true_eq, beq_iff_eq, Decidable.imp_iff_not_or, true_or, or_true, true_and, and_true, not_true_eq_false, false_or]
    omega
  · have := hcz (by omega)
    subst this
    have e1 : (F == 1) = false := by simp; omega
    have e2 : (F == 2) = false := by simp; omega
    have e3 : decide ((2 : Int) ≤ F ∧ F ≤ 5) = false := decide_eq_false (by omega)
    simp only [e1, e2, e3, Bool.not_false, regB, Bool.and_eq_true, decide_eq_true_eq, beq_iff_eq, Decidable.imp_iff_not_or, true_or, or_true, true_and, and_true, not_true_eq_false, false_or]
    omega
set_option maxHeartbeats 1000000 in
set_option maxRecDepth 100000 in
theorem rdec_fn (w : Nat) (hw : w < 4294967296) : Fn Try.prog 29 [.s (.int .u32 w)] [] (· = ⟨.tup [.agg (iv (kz (dOk w) (dOp w)) (kz (dOk w) (dA w)) (kz (dOk w) (dB w)) (kz (dOk w) (dC w)) (kz (dOk w) (dM w))), .s (.bool (dOk w))], [], []⟩) := by
  have hf := form_fn (dOp w)
  have w1 := e_op w hw
  have w2 := e_a w hw
  have w3 := e_b w hw
  have w4 := e_i w hw
  have ha : 0 ≤ dA w ∧ dA w ≤ 15 := by unfold dA; simp only [Nat.reducePow]; omega
  have hb0 : 0 ≤ dB w ∧ dB w ≤ 15 := by unfold dB; simp only [Nat.reducePow]; omega
  have w5 : IntKind.i64.wrap (dA w) = dA w := wi64 (by omega) (by omega)
  have w6 : IntKind.i64.wrap (dB w) = dB w := wi64 (by omega) (by omega)
  have hIl : dI w < 65536 := by unfold dI; simp only [Nat.reducePow]; omega
  by_cases hF : formV (dOp w) = 0
  · have hd : dOk w = false := by unfold dOk; rw [form_none _ hF]; rfl
    rw [hF] at hf
    rw [hd]
    generalize dOp w = o at *
    generalize dA w = a at *
    generalize dB w = b at *
    refine fn_of_vc mixed tys_ok _ _ Try.func29 (by kernel_rfl) rfl Try.ntmps29 (by rw [Try.results29]) rfl ?_; dsimp only [argTm, argHl, Nat.zero_add, Nat.reduceAdd, List.length_nil, List.length_cons]
    (repeat' ((conv => whnf); first | ((with_reducible apply Vl.mk (α := Int)); · with_reducible first | exact e_keep _ _ | exact w1 | exact w2 | exact w3 | exact w4 | exact w5 | exact w6)  |  (refine vcall_pure (f := 53) (hf) rfl ?_) | (with_reducible apply sd_draw; · kernel_rfl) | (apply Sd.mk; · exact aSd) | ((with_reducible apply Vl.mk (α := Int)); · exact aAr) | ((with_reducible first | apply Vl.mk (α := Bool) | apply Vl.mk (α := Nat) | apply Vl.mk (α := ByteArray) | apply Ge.mk (α := Row) | apply Ge.mk (α := SV) | apply Ge.mk (α := AV)); · exact rfl) | (refine And.intro rfl ?_) | ((with_reducible first | apply Vl.mk (α := List SV) | apply Vl.mk (α := Ef) | apply Vl.mk (α := TV) | apply Ge.mk (α := List SV) | apply Sg.mk | apply Sk.mk); · exact aCl) | ((first | apply Br.mk | apply Gd.mk) <;> (intro hb; first | exact aKl hb | (simp only [d1, d2, beq_iff_eq, bne_iff_ne, d3, d4, d5, d6, Int.not_lt, Int.not_le, ge_iff_le, gt_iff_lt, ne_eq, d7] at hb; first | (exfalso; omega) | skip) | skip)))); (all_goals (try (conv => whnf)))
    all_goals first | exact fin_pure rfl rfl | trace_state
  · have ho := form_rng hF
    obtain ⟨u0, u1, u2, u3, u4, u5⟩ := form_use (dOp w).toNat (by omega) (by rw [Int.toNat_of_nonneg (by omega)]; exact hF)
    rw [Int.toNat_of_nonneg (by omega)] at u3 u4
    have hm : -32768 ≤ dM w ∧ dM w ≤ 65535 := by
      unfold dM sx
      repeat' split
      all_goals omega
    have hval := rvalid_fn (dOp w) (dA w) (dB w) (dC w) (dM w) (by omega)
    rw [rv_dok w hw hF] at hval
    have hC2 : formV (dOp w) = 2 → dC w = ((dI w : Nat) : Int) ∧ dM w = 0 := fun h => by unfold dC dM; rw [u3, if_pos (by simp [h]), if_pos (by simp [h])]; exact ⟨rfl, rfl⟩
    have hC3 : formV (dOp w) = 3 ∨ formV (dOp w) = 7 → dC w = 0 ∧ dM w = sx (dI w) := fun h => by
      have e1 : loV (formV (dOp w)) = -32768 := by unfold loV; rw [if_pos h]
      unfold dC dM; rw [u3, if_neg (by simp; omega), if_neg (by simp; omega), u4, e1, if_pos (by omega)]; exact ⟨rfl, rfl⟩
    have hC9 : formV (dOp w) ≠ 2 → formV (dOp w) ≠ 3 → formV (dOp w) ≠ 7 → dC w = 0 ∧ dM w = ((dI w : Nat) : Int) := fun h h3 h7 => by
      have e1 : loV (formV (dOp w)) = 0 := by unfold loV; rw [if_neg (by omega)]
      unfold dC dM; rw [u3, if_neg (by simp [h]), if_neg (by simp [h]), u4, e1, if_neg (by omega)]; exact ⟨rfl, rfl⟩
    have w7 : IntKind.i64.wrap ((dI w : Nat) : Int) = ((dI w : Nat) : Int) := wi64 (by omega) (by omega)
    have w8 : IntKind.i32.wrap (IntKind.i16.wrap ((dI w : Nat) : Int)) = sx (dI w) := e_sx _ hIl
    have w9 : IntKind.i32.wrap ((dI w : Nat) : Int) = ((dI w : Nat) : Int) := wi32 (by omega) (by omega)
    have k16 : IntKind.i16.wrap ((dI w : Nat) : Int) = IntKind.i16.wrap ((dI w : Nat) : Int) := rfl
    have hcase : formV (dOp w) = 2 ∨ (formV (dOp w) = 3 ∨ formV (dOp w) = 7) ∨ (formV (dOp w) ≠ 2 ∧ formV (dOp w) ≠ 3 ∧ formV (dOp w) ≠ 7) := by omega
    rcases hcase with h | h | h
    · obtain ⟨q1, q2⟩ := hC2 h
      rw [q1, q2] at hval ⊢
      clear hC2 hC3 hC9 u0 u1 u2 u3 u4 u5 q1 q2 hm ho
      generalize formV (dOp w) = F at *
      generalize dOk w = ok at *
      generalize dOp w = o at *
      generalize dA w = a at *
      generalize dB w = b at *
      generalize dI w = I at *
      cases ok
      all_goals
        refine fn_of_vc mixed tys_ok _ _ Try.func29 (by kernel_rfl) rfl Try.ntmps29 (by rw [Try.results29]) rfl ?_; dsimp only [argTm, argHl, Nat.zero_add, Nat.reduceAdd, List.length_nil, List.length_cons]
        (repeat' ((conv => whnf); first | ((with_reducible apply Vl.mk (α := Int)); · with_reducible first | exact e_keep _ _ | exact w1 | exact w2 | exact w3 | exact w4 | exact w5 | exact w6 | exact w7)  |  (refine vcall_pure (f := 53) (hf) rfl ?_)  |  (refine vcall_pure (f := 50) (hval) rfl ?_) | (with_reducible apply sd_draw; · kernel_rfl) | (apply Sd.mk; · exact aSd) | ((with_reducible apply Vl.mk (α := Int)); · exact aAr) | ((with_reducible first | apply Vl.mk (α := Bool) | apply Vl.mk (α := Nat) | apply Vl.mk (α := ByteArray) | apply Ge.mk (α := Row) | apply Ge.mk (α := SV) | apply Ge.mk (α := AV)); · exact rfl) | (refine And.intro rfl ?_) | ((with_reducible first | apply Vl.mk (α := List SV) | apply Vl.mk (α := Ef) | apply Vl.mk (α := TV) | apply Ge.mk (α := List SV) | apply Sg.mk | apply Sk.mk); · exact aCl) | ((first | apply Br.mk | apply Gd.mk) <;> (intro hb; first | exact aKl hb | (simp only [d1, d2, beq_iff_eq, bne_iff_ne, d3, d4, d5, d6, Int.not_lt, Int.not_le, ge_iff_le, gt_iff_lt, ne_eq, d7] at hb; first | (exfalso; omega) | skip) | skip)))); (all_goals (try (conv => whnf)))
        all_goals first | exact fin_pure rfl rfl | trace_state
    · obtain ⟨q1, q2⟩ := hC3 h
      rw [q1, q2] at hval ⊢
      clear hC2 hC3 hC9 u0 u1 u2 u3 u4 u5 q1 q2 hm ho
      generalize formV (dOp w) = F at *
      generalize dOk w = ok at *
      generalize dOp w = o at *
      generalize dA w = a at *
      generalize dB w = b at *
      generalize sx (dI w) = S at *
      generalize dI w = I at *
      cases ok
      all_goals
        refine fn_of_vc mixed tys_ok _ _ Try.func29 (by kernel_rfl) rfl Try.ntmps29 (by rw [Try.results29]) rfl ?_; dsimp only [argTm, argHl, Nat.zero_add, Nat.reduceAdd, List.length_nil, List.length_cons]
        (repeat' ((conv => whnf); first | ((with_reducible apply Vl.mk (α := Int)); · with_reducible first | exact e_keep _ _ | exact w1 | exact w2 | exact w3 | exact w4 | exact w5 | exact w6 | exact k16 | exact w8)  |  (refine vcall_pure (f := 53) (hf) rfl ?_)  |  (refine vcall_pure (f := 50) (hval) rfl ?_) | (with_reducible apply sd_draw; · kernel_rfl) | (apply Sd.mk; · exact aSd) | ((with_reducible apply Vl.mk (α := Int)); · exact aAr) | ((with_reducible first | apply Vl.mk (α := Bool) | apply Vl.mk (α := Nat) | apply Vl.mk (α := ByteArray) | apply Ge.mk (α := Row) | apply Ge.mk (α := SV) | apply Ge.mk (α := AV)); · exact rfl) | (refine And.intro rfl ?_) | ((with_reducible first | apply Vl.mk (α := List SV) | apply Vl.mk (α := Ef) | apply Vl.mk (α := TV) | apply Ge.mk (α := List SV) | apply Sg.mk | apply Sk.mk); · exact aCl) | ((first | apply Br.mk | apply Gd.mk) <;> (intro hb; first | exact aKl hb | (simp only [d1, d2, beq_iff_eq, bne_iff_ne, d3, d4, d5, d6, Int.not_lt, Int.not_le, ge_iff_le, gt_iff_lt, ne_eq, d7] at hb; first | (exfalso; omega) | skip) | skip)))); (all_goals (try (conv => whnf)))
        all_goals first | exact fin_pure rfl rfl | trace_state
    · obtain ⟨q1, q2⟩ := hC9 h.1 h.2.1 h.2.2
      rw [q1, q2] at hval ⊢
      clear hC2 hC3 hC9 u0 u1 u2 u3 u4 u5 q1 q2 hm ho
      generalize formV (dOp w) = F at *
      generalize dOk w = ok at *
      generalize dOp w = o at *
      generalize dA w = a at *
      generalize dB w = b at *
      generalize dI w = I at *
      cases ok
      all_goals
        refine fn_of_vc mixed tys_ok _ _ Try.func29 (by kernel_rfl) rfl Try.ntmps29 (by rw [Try.results29]) rfl ?_; dsimp only [argTm, argHl, Nat.zero_add, Nat.reduceAdd, List.length_nil, List.length_cons]
        (repeat' ((conv => whnf); first | ((with_reducible apply Vl.mk (α := Int)); · with_reducible first | exact e_keep _ _ | exact w1 | exact w2 | exact w3 | exact w4 | exact w5 | exact w6 | exact w9)  |  (refine vcall_pure (f := 53) (hf) rfl ?_)  |  (refine vcall_pure (f := 50) (hval) rfl ?_) | (with_reducible apply sd_draw; · kernel_rfl) | (apply Sd.mk; · exact aSd) | ((with_reducible apply Vl.mk (α := Int)); · exact aAr) | ((with_reducible first | apply Vl.mk (α := Bool) | apply Vl.mk (α := Nat) | apply Vl.mk (α := ByteArray) | apply Ge.mk (α := Row) | apply Ge.mk (α := SV) | apply Ge.mk (α := AV)); · exact rfl) | (refine And.intro rfl ?_) | ((with_reducible first | apply Vl.mk (α := List SV) | apply Vl.mk (α := Ef) | apply Vl.mk (α := TV) | apply Ge.mk (α := List SV) | apply Sg.mk | apply Sk.mk); · exact aCl) | ((first | apply Br.mk | apply Gd.mk) <;> (intro hb; first | exact aKl hb | (simp only [d1, d2, beq_iff_eq, bne_iff_ne, d3, d4, d5, d6, Int.not_lt, Int.not_le, ge_iff_le, gt_iff_lt, ne_eq, d7] at hb; first | (exfalso; omega) | skip) | skip)))); (all_goals (try (conv => whnf)))
        all_goals first | exact fin_pure rfl rfl | trace_state
end Go.Proofs.Ytcaddlighhiepaa
