/- What one instruction in user mode may change. -/
import Derived.Test.YtckdamhnmcmbbaaUsD
import Derived.Test.YtckdamhnmcmbbaaPrv0
namespace Go.Proofs.Ytckdamhnmcmbbaa
open Go Go.RowKit
set_option linter.unusedSimpArgs false
set_option linter.unusedVariables false
set_option linter.unusedSectionVars false

theorem set_ne (xs : List Nat) (i j w : Nat) (h : i ≠ j) : (xs.set j w).getD i 0 = xs.getD i 0 := by
  rw [List.getD_eq_getElem?_getD, List.getElem?_set_ne (by omega), List.getD_eq_getElem?_getD]
theorem set_rng {xs : List Nat} (h : ∀ y ∈ xs, y < 4294967296) (j w : Nat) (hw : w < 4294967296) : ∀ y ∈ xs.set j w, y < 4294967296 := fun y hy => by
  rcases List.mem_or_eq_of_mem_set hy with h1 | h1
  · exact h y h1
  · omega
def UsP (fl : Nat) (xs ys : List Nat) : Prop := ∀ i, ys.getD i 0 ≠ xs.getD i 0 → (i = 2 ∨ i = 3) ∨ (64 ≤ i ∧ i < 96 ∧ fl % 4 = 3)
def UsR (x : List Nat) (fl : Nat) (xs : List Nat) : Prop :=
  ∃ (x' : List Nat) (pc' : Nat) (c' ys : List Nat), x'.length = 16 ∧ c'.length = 8 ∧ ys.length = 128 ∧ UsP fl xs ys ∧
    Fn Try.prog 28 [.agg (cpuC x 384 [4, 0, 0, 0, 0, 0, 0, 0]), .s (.sl 0 0 (128 : Nat))] [⟨false, 1, wsv xs⟩] (· = ⟨.tup [.agg (cpuC x' pc' c'), .s (.sl 1 0 (128 : Nat)), .agg [.int .i64 0, .int .i64 0, .int .i64 0, .int .u32 0]], [], [⟨true, 1, wsv ys⟩]⟩)
structure Mem (fl : Nat) (xs : List Nat) : Prop where
  (lt : fl < 32) (len : xs.length = 128) (rng : ∀ y ∈ xs, y < 4294967296) (w3 : xs.getD 3 0 = 773) (w2 : xs.getD 2 0 = 512 + fl) (z : ∀ i, i < 32 → i ≠ 2 → i ≠ 3 → xs.getD i 0 = 0)
def M1 (xs : List Nat) : List Nat := xs.set 3 (tcV (xs.getD 3 0) 1)
section
variable {fl : Nat} {xs : List Nat} (hM : Mem fl xs)
include hM
theorem m1_len : (M1 xs).length = 128 := by unfold M1; rw [List.length_set]; exact hM.len
theorem m1_rng : ∀ y ∈ M1 xs, y < 4294967296 := set_rng hM.rng _ _ (tcV_lt _ _ (by rw [hM.w3]; omega))
theorem m1_3 : (M1 xs).getD 3 0 = 781 := by
  unfold M1
  rw [hM.w3, List.getD_eq_getElem?_getD, List.getElem?_set_self (by rw [hM.len]; omega)]
  decide
theorem m1_ne (i : Nat) (h : i ≠ 3) : (M1 xs).getD i 0 = xs.getD i 0 := set_ne _ _ _ _ h
theorem m1_p : UsP fl xs (M1 xs) := fun i h => by
  by_cases e : i = 3
  · exact .inl (.inr e)
  · exact absurd (m1_ne hM i e) h
/-- A page that may be used is page 2 or 3. -/
theorem pg (q : Nat) (ac : Int) (hq : q < 32) (hp : pmV ((M1 xs).getD q 0) ac = true) : q = 2 ∨ q = 3 := by
  by_cases e3 : q = 3
  · exact .inr e3
  by_cases e2 : q = 2
  · exact .inl e2
  rw [m1_ne hM q e3, hM.z q hq e2 e3] at hp
  cases hp
theorem pg_st (q : Nat) (hq : q < 32) (hp : pmV ((M1 xs).getD q 0) 3 = true) : q = 2 ∧ fl % 4 = 3 ∧ frV ((M1 xs).getD q 0) = 2 := by
  rcases pg hM q 3 hq hp with rfl | rfl
  · rw [m1_ne hM 2 (by omega), hM.w2] at hp ⊢
    have hf := hM.lt
    have key : ∀ f : Nat, f < 32 → pmV (512 + f) 3 = true → f % 4 = 3 ∧ frV (512 + f) = 2 := by decide
    obtain ⟨k1, k2⟩ := key fl hf hp
    exact ⟨rfl, k1, k2⟩
  · rw [m1_3 hM] at hp
    exact absurd hp (by decide)
theorem fetch1 (x : List Nat) (w : Nat) (hx : x.length = 16) (hw : xs.getD 96 0 = w) : Fn Try.prog 46 [.agg (cpuC x 384 [4, 0, 0, 0, 0, 0, 0, 0]), .s (.sl 0 0 (128 : Nat))] [⟨false, 1, wsv xs⟩] (· = ⟨.tup [.s (.int .u32 w), .s (.sl 1 0 (128 : Nat)), .s (.int .i64 0)], [], [⟨true, 1, wsv (M1 xs)⟩]⟩) :=
  fetchU x xs w hx hM.len hM.rng (by rw [hM.w3]; decide) (by rw [hM.w3]; decide) hw
end
theorem wkc2 (xs : List Nat) (va : Nat) (hl : xs.length = 128) (hxs : ∀ x ∈ xs, x < 4294967296) (hva : va < 4294967296) :
    Fn Try.prog 78 [.s (.sl 0 0 (128 : Nat)), .s (.int .u32 (0 : Nat)), .s (.int .u32 va), .s (.int .i64 2)] [⟨false, 1, wsv xs⟩] (· = ⟨.a (.agg [.int .u32 0, .int .u32 0, .int .i64 (5 : Nat)]), [], []⟩) ∨
    ∃ PA q : Nat, q < 32 ∧ pmV (xs.getD q 0) 2 = true ∧ frV (xs.getD q 0) < 4 ∧ frV (xs.getD q 0) * 128 + va % 128 = PA ∧
      Fn Try.prog 78 [.s (.sl 0 0 (128 : Nat)), .s (.int .u32 (0 : Nat)), .s (.int .u32 va), .s (.int .i64 2)] [⟨false, 1, wsv xs⟩] (· = ⟨.a (.agg [.int .u32 PA, .int .u32 (4 * q : Nat), .int .i64 0]), [], []⟩) := by
  by_cases h1 : 4096 ≤ va
  · exact .inl (walk_far2 xs va hl hxs hva h1)
  have hv : va < 4096 := by omega
  cases hp : pmV (xs.getD (va / 128) 0) 2 with
  | false => exact .inl (walk_perm2 xs va hl hxs hva hv hp)
  | true =>
    by_cases hf : frV (xs.getD (va / 128) 0) < 4
    · exact .inr ⟨_, va / 128, by omega, hp, hf, rfl, walk_ok2 xs va hl hxs hva hv hp hf _ rfl⟩
    · exact .inl (walk_frame2 xs va hl hxs hva hv hp hf)
theorem wkc3 (xs : List Nat) (va : Nat) (hl : xs.length = 128) (hxs : ∀ x ∈ xs, x < 4294967296) (hva : va < 4294967296) :
    Fn Try.prog 78 [.s (.sl 0 0 (128 : Nat)), .s (.int .u32 (0 : Nat)), .s (.int .u32 va), .s (.int .i64 3)] [⟨false, 1, wsv xs⟩] (· = ⟨.a (.agg [.int .u32 0, .int .u32 0, .int .i64 (6 : Nat)]), [], []⟩) ∨
    ∃ PA q : Nat, q < 32 ∧ pmV (xs.getD q 0) 3 = true ∧ frV (xs.getD q 0) < 4 ∧ frV (xs.getD q 0) * 128 + va % 128 = PA ∧
      Fn Try.prog 78 [.s (.sl 0 0 (128 : Nat)), .s (.int .u32 (0 : Nat)), .s (.int .u32 va), .s (.int .i64 3)] [⟨false, 1, wsv xs⟩] (· = ⟨.a (.agg [.int .u32 PA, .int .u32 (4 * q : Nat), .int .i64 0]), [], []⟩) := by
  by_cases h1 : 4096 ≤ va
  · exact .inl (walk_far3 xs va hl hxs hva h1)
  have hv : va < 4096 := by omega
  cases hp : pmV (xs.getD (va / 128) 0) 3 with
  | false => exact .inl (walk_perm3 xs va hl hxs hva hv hp)
  | true =>
    by_cases hf : frV (xs.getD (va / 128) 0) < 4
    · exact .inr ⟨_, va / 128, by omega, hp, hf, rfl, walk_ok3 xs va hl hxs hva hv hp hf _ rfl⟩
    · exact .inl (walk_frame3 xs va hl hxs hva hv hp hf)
set_option maxRecDepth 100000 in
theorem us_alu3 (x0 x1 x2 x3 x4 x5 x6 x7 x8 x9 x10 x11 x12 x13 x14 x15 w A B C m' fl : Nat) (o m : Int) (xs : List Nat) (hM : Mem fl xs) (hrl : ∀ y ∈ [x0, x1, x2, x3, x4, x5, x6, x7, x8, x9, x10, x11, x12, x13, x14, x15], y < 4294967296) (hw : xs.getD 96 0 = w) (hd1 : Fn Try.prog 47 [.s (.int .u32 w)] [] (· = ⟨.tup [.agg (iv o A B C m), .s (.bool true)], [], []⟩))
    (hA : A < 16) (hB : B < 16) (hC : C < 16) (hm : IntKind.u32.wrap m = (m' : Int)) (hm' : m' < 4294967296) (ho : 1 ≤ o ∧ o ≤ 13) : UsR [x0, x1, x2, x3, x4, x5, x6, x7, x8, x9, x10, x11, x12, x13, x14, x15] fl xs := by
  have hf := fetch1 hM [x0, x1, x2, x3, x4, x5, x6, x7, x8, x9, x10, x11, x12, x13, x14, x15] w rfl hw
  have lA := xs_lt hrl A
  have lB := xs_lt hrl B
  have lC := xs_lt hrl C
  obtain ⟨xA, gA⟩ : ∃ z, [x0, x1, x2, x3, x4, x5, x6, x7, x8, x9, x10, x11, x12, x13, x14, x15].getD A 0 = z := ⟨_, rfl⟩
  obtain ⟨xB, gB⟩ : ∃ z, [x0, x1, x2, x3, x4, x5, x6, x7, x8, x9, x10, x11, x12, x13, x14, x15].getD B 0 = z := ⟨_, rfl⟩
  obtain ⟨xC, gC⟩ : ∃ z, [x0, x1, x2, x3, x4, x5, x6, x7, x8, x9, x10, x11, x12, x13, x14, x15].getD C 0 = z := ⟨_, rfl⟩
  rw [gA] at lA
  rw [gB] at lB
  rw [gC] at lC
  obtain ⟨V, hV⟩ : ∃ V, aluN o xB xC = V := ⟨_, rfl⟩
  obtain ⟨y0, y1, y2, y3, y4, y5, y6, y7, y8, y9, y10, y11, y12, y13, y14, y15, hy⟩ := len16 (show (setR [x0, x1, x2, x3, x4, x5, x6, x7, x8, x9, x10, x11, x12, x13, x14, x15] A V).length = 16 by rw [setR_len]; rfl)
  exact ⟨[y0, y1, y2, y3, y4, y5, y6, y7, y8, y9, y10, y11, y12, y13, y14, y15], (384 + 4), [4, 0, 0, 0, 0, 0, 0, 0], M1 xs, rfl, rfl, m1_len hM, m1_p hM, eu_exe [x0, x1, x2, x3, x4, x5, x6, x7, x8, x9, x10, x11, x12, x13, x14, x15] xs (M1 xs) w o A B C m [y0, y1, y2, y3, y4, y5, y6, y7, y8, y9, y10, y11, y12, y13, y14, y15] (384 + 4) [4, 0, 0, 0, 0, 0, 0, 0] rfl hf hd1 (by omega) (eu_alu3 x0 x1 x2 x3 x4 x5 x6 x7 x8 x9 x10 x11 x12 x13 x14 x15 384 A B C xA xB xC m' V o m y0 y1 y2 y3 y4 y5 y6 y7 y8 y9 y10 y11 y12 y13 y14 y15 (by omega) hA hB hC gA gB gC hm hy ho lB lC hV) rfl rfl⟩
set_option maxRecDepth 100000 in
theorem us_alui (x0 x1 x2 x3 x4 x5 x6 x7 x8 x9 x10 x11 x12 x13 x14 x15 w A B C m' fl : Nat) (o m : Int) (xs : List Nat) (hM : Mem fl xs) (hrl : ∀ y ∈ [x0, x1, x2, x3, x4, x5, x6, x7, x8, x9, x10, x11, x12, x13, x14, x15], y < 4294967296) (hw : xs.getD 96 0 = w) (hd1 : Fn Try.prog 47 [.s (.int .u32 w)] [] (· = ⟨.tup [.agg (iv o A B C m), .s (.bool true)], [], []⟩))
    (hA : A < 16) (hB : B < 16) (hC : C < 16) (hm : IntKind.u32.wrap m = (m' : Int)) (hm' : m' < 4294967296) (ho : 16 ≤ o ∧ o ≤ 23) : UsR [x0, x1, x2, x3, x4, x5, x6, x7, x8, x9, x10, x11, x12, x13, x14, x15] fl xs := by
  have hf := fetch1 hM [x0, x1, x2, x3, x4, x5, x6, x7, x8, x9, x10, x11, x12, x13, x14, x15] w rfl hw
  have lA := xs_lt hrl A
  have lB := xs_lt hrl B
  have lC := xs_lt hrl C
  obtain ⟨xA, gA⟩ : ∃ z, [x0, x1, x2, x3, x4, x5, x6, x7, x8, x9, x10, x11, x12, x13, x14, x15].getD A 0 = z := ⟨_, rfl⟩
  obtain ⟨xB, gB⟩ : ∃ z, [x0, x1, x2, x3, x4, x5, x6, x7, x8, x9, x10, x11, x12, x13, x14, x15].getD B 0 = z := ⟨_, rfl⟩
  obtain ⟨xC, gC⟩ : ∃ z, [x0, x1, x2, x3, x4, x5, x6, x7, x8, x9, x10, x11, x12, x13, x14, x15].getD C 0 = z := ⟨_, rfl⟩
  rw [gA] at lA
  rw [gB] at lB
  rw [gC] at lC
  obtain ⟨V, hV⟩ : ∃ V, aluN o xB m' = V := ⟨_, rfl⟩
  obtain ⟨y0, y1, y2, y3, y4, y5, y6, y7, y8, y9, y10, y11, y12, y13, y14, y15, hy⟩ := len16 (show (setR [x0, x1, x2, x3, x4, x5, x6, x7, x8, x9, x10, x11, x12, x13, x14, x15] A V).length = 16 by rw [setR_len]; rfl)
  exact ⟨[y0, y1, y2, y3, y4, y5, y6, y7, y8, y9, y10, y11, y12, y13, y14, y15], (384 + 4), [4, 0, 0, 0, 0, 0, 0, 0], M1 xs, rfl, rfl, m1_len hM, m1_p hM, eu_exe [x0, x1, x2, x3, x4, x5, x6, x7, x8, x9, x10, x11, x12, x13, x14, x15] xs (M1 xs) w o A B C m [y0, y1, y2, y3, y4, y5, y6, y7, y8, y9, y10, y11, y12, y13, y14, y15] (384 + 4) [4, 0, 0, 0, 0, 0, 0, 0] rfl hf hd1 (by omega) (eu_alui x0 x1 x2 x3 x4 x5 x6 x7 x8 x9 x10 x11 x12 x13 x14 x15 384 A B C xA xB xC m' V o m y0 y1 y2 y3 y4 y5 y6 y7 y8 y9 y10 y11 y12 y13 y14 y15 (by omega) hA hB hC gA gB gC hm hy ho lB hm' hV) rfl rfl⟩
set_option maxRecDepth 100000 in
theorem us_lui (x0 x1 x2 x3 x4 x5 x6 x7 x8 x9 x10 x11 x12 x13 x14 x15 w A B C m' fl : Nat) (o m : Int) (xs : List Nat) (hM : Mem fl xs) (hrl : ∀ y ∈ [x0, x1, x2, x3, x4, x5, x6, x7, x8, x9, x10, x11, x12, x13, x14, x15], y < 4294967296) (hw : xs.getD 96 0 = w) (hd1 : Fn Try.prog 47 [.s (.int .u32 w)] [] (· = ⟨.tup [.agg (iv o A B C m), .s (.bool true)], [], []⟩))
    (hA : A < 16) (hB : B < 16) (hC : C < 16) (hm : IntKind.u32.wrap m = (m' : Int)) (hm' : m' < 4294967296) (ho : o = 24) : UsR [x0, x1, x2, x3, x4, x5, x6, x7, x8, x9, x10, x11, x12, x13, x14, x15] fl xs := by
  have hf := fetch1 hM [x0, x1, x2, x3, x4, x5, x6, x7, x8, x9, x10, x11, x12, x13, x14, x15] w rfl hw
  have lA := xs_lt hrl A
  have lB := xs_lt hrl B
  have lC := xs_lt hrl C
  obtain ⟨xA, gA⟩ : ∃ z, [x0, x1, x2, x3, x4, x5, x6, x7, x8, x9, x10, x11, x12, x13, x14, x15].getD A 0 = z := ⟨_, rfl⟩
  obtain ⟨xB, gB⟩ : ∃ z, [x0, x1, x2, x3, x4, x5, x6, x7, x8, x9, x10, x11, x12, x13, x14, x15].getD B 0 = z := ⟨_, rfl⟩
  obtain ⟨xC, gC⟩ : ∃ z, [x0, x1, x2, x3, x4, x5, x6, x7, x8, x9, x10, x11, x12, x13, x14, x15].getD C 0 = z := ⟨_, rfl⟩
  rw [gA] at lA
  rw [gB] at lB
  rw [gC] at lC
  obtain ⟨V, hV⟩ : ∃ V : Nat, IntKind.u32.wrap ((m' : Int) * 2 ^ min (Int.toNat 16) IntKind.u32.bits) = (V : Int) := ⟨(IntKind.u32.wrap ((m' : Int) * 2 ^ min (Int.toNat 16) IntKind.u32.bits)).toNat, by rw [wu32']; omega⟩
  obtain ⟨y0, y1, y2, y3, y4, y5, y6, y7, y8, y9, y10, y11, y12, y13, y14, y15, hy⟩ := len16 (show (setR [x0, x1, x2, x3, x4, x5, x6, x7, x8, x9, x10, x11, x12, x13, x14, x15] A V).length = 16 by rw [setR_len]; rfl)
  exact ⟨[y0, y1, y2, y3, y4, y5, y6, y7, y8, y9, y10, y11, y12, y13, y14, y15], (384 + 4), [4, 0, 0, 0, 0, 0, 0, 0], M1 xs, rfl, rfl, m1_len hM, m1_p hM, eu_exe [x0, x1, x2, x3, x4, x5, x6, x7, x8, x9, x10, x11, x12, x13, x14, x15] xs (M1 xs) w o A B C m [y0, y1, y2, y3, y4, y5, y6, y7, y8, y9, y10, y11, y12, y13, y14, y15] (384 + 4) [4, 0, 0, 0, 0, 0, 0, 0] rfl hf hd1 (by omega) (eu_lui x0 x1 x2 x3 x4 x5 x6 x7 x8 x9 x10 x11 x12 x13 x14 x15 384 A B C xA xB xC m' V o m y0 y1 y2 y3 y4 y5 y6 y7 y8 y9 y10 y11 y12 y13 y14 y15 (by omega) hA hB hC gA gB gC hm hy ho hV) rfl rfl⟩
set_option maxRecDepth 100000 in
theorem us_br (x0 x1 x2 x3 x4 x5 x6 x7 x8 x9 x10 x11 x12 x13 x14 x15 w A B C m' fl : Nat) (o m : Int) (xs : List Nat) (hM : Mem fl xs) (hrl : ∀ y ∈ [x0, x1, x2, x3, x4, x5, x6, x7, x8, x9, x10, x11, x12, x13, x14, x15], y < 4294967296) (hw : xs.getD 96 0 = w) (hd1 : Fn Try.prog 47 [.s (.int .u32 w)] [] (· = ⟨.tup [.agg (iv o A B C m), .s (.bool true)], [], []⟩))
    (hA : A < 16) (hB : B < 16) (hC : C < 16) (hm : IntKind.u32.wrap m = (m' : Int)) (hm' : m' < 4294967296) (ho : 40 ≤ o ∧ o ≤ 45) : UsR [x0, x1, x2, x3, x4, x5, x6, x7, x8, x9, x10, x11, x12, x13, x14, x15] fl xs := by
  have hf := fetch1 hM [x0, x1, x2, x3, x4, x5, x6, x7, x8, x9, x10, x11, x12, x13, x14, x15] w rfl hw
  have lA := xs_lt hrl A
  have lB := xs_lt hrl B
  have lC := xs_lt hrl C
  obtain ⟨xA, gA⟩ : ∃ z, [x0, x1, x2, x3, x4, x5, x6, x7, x8, x9, x10, x11, x12, x13, x14, x15].getD A 0 = z := ⟨_, rfl⟩
  obtain ⟨xB, gB⟩ : ∃ z, [x0, x1, x2, x3, x4, x5, x6, x7, x8, x9, x10, x11, x12, x13, x14, x15].getD B 0 = z := ⟨_, rfl⟩
  obtain ⟨xC, gC⟩ : ∃ z, [x0, x1, x2, x3, x4, x5, x6, x7, x8, x9, x10, x11, x12, x13, x14, x15].getD C 0 = z := ⟨_, rfl⟩
  rw [gA] at lA
  rw [gB] at lB
  rw [gC] at lC
  obtain ⟨Q, hQ⟩ : ∃ Q : Int, IntKind.u32.wrap (4 * (m' : Int)) = Q := ⟨_, rfl⟩
  obtain ⟨T, hT⟩ : ∃ T : Nat, IntKind.u32.wrap (((384 : Nat) : Int) + Q) = (T : Int) := ⟨(IntKind.u32.wrap (((384 : Nat) : Int) + Q)).toNat, by rw [wu32']; omega⟩
  obtain ⟨tk, htk⟩ : ∃ t, takV o xA xB = t := ⟨_, rfl⟩
  exact ⟨[x0, x1, x2, x3, x4, x5, x6, x7, x8, x9, x10, x11, x12, x13, x14, x15], (if tk then T else 384 + 4), [4, 0, 0, 0, 0, 0, 0, 0], M1 xs, rfl, rfl, m1_len hM, m1_p hM, eu_exe [x0, x1, x2, x3, x4, x5, x6, x7, x8, x9, x10, x11, x12, x13, x14, x15] xs (M1 xs) w o A B C m [x0, x1, x2, x3, x4, x5, x6, x7, x8, x9, x10, x11, x12, x13, x14, x15] (if tk then T else 384 + 4) [4, 0, 0, 0, 0, 0, 0, 0] rfl hf hd1 (by omega) (eu_br x0 x1 x2 x3 x4 x5 x6 x7 x8 x9 x10 x11 x12 x13 x14 x15 384 A B C xA xB xC m' 0 o m (by omega) hA hB hC gA gB gC hm T Q tk ho lA lB htk hQ hT) rfl rfl⟩
set_option maxRecDepth 100000 in
theorem us_jal (x0 x1 x2 x3 x4 x5 x6 x7 x8 x9 x10 x11 x12 x13 x14 x15 w A B C m' fl : Nat) (o m : Int) (xs : List Nat) (hM : Mem fl xs) (hrl : ∀ y ∈ [x0, x1, x2, x3, x4, x5, x6, x7, x8, x9, x10, x11, x12, x13, x14, x15], y < 4294967296) (hw : xs.getD 96 0 = w) (hd1 : Fn Try.prog 47 [.s (.int .u32 w)] [] (· = ⟨.tup [.agg (iv o A B C m), .s (.bool true)], [], []⟩))
    (hA : A < 16) (hB : B < 16) (hC : C < 16) (hm : IntKind.u32.wrap m = (m' : Int)) (hm' : m' < 4294967296) (ho : o = 48) : UsR [x0, x1, x2, x3, x4, x5, x6, x7, x8, x9, x10, x11, x12, x13, x14, x15] fl xs := by
  have hf := fetch1 hM [x0, x1, x2, x3, x4, x5, x6, x7, x8, x9, x10, x11, x12, x13, x14, x15] w rfl hw
  have lA := xs_lt hrl A
  have lB := xs_lt hrl B
  have lC := xs_lt hrl C
  obtain ⟨xA, gA⟩ : ∃ z, [x0, x1, x2, x3, x4, x5, x6, x7, x8, x9, x10, x11, x12, x13, x14, x15].getD A 0 = z := ⟨_, rfl⟩
  obtain ⟨xB, gB⟩ : ∃ z, [x0, x1, x2, x3, x4, x5, x6, x7, x8, x9, x10, x11, x12, x13, x14, x15].getD B 0 = z := ⟨_, rfl⟩
  obtain ⟨xC, gC⟩ : ∃ z, [x0, x1, x2, x3, x4, x5, x6, x7, x8, x9, x10, x11, x12, x13, x14, x15].getD C 0 = z := ⟨_, rfl⟩
  rw [gA] at lA
  rw [gB] at lB
  rw [gC] at lC
  obtain ⟨Q, hQ⟩ : ∃ Q : Int, IntKind.u32.wrap (4 * (m' : Int)) = Q := ⟨_, rfl⟩
  obtain ⟨T, hT⟩ : ∃ T : Nat, IntKind.u32.wrap (((384 : Nat) : Int) + Q) = (T : Int) := ⟨(IntKind.u32.wrap (((384 : Nat) : Int) + Q)).toNat, by rw [wu32']; omega⟩
  obtain ⟨V, hV⟩ : ∃ V, 384 + 4 = V := ⟨_, rfl⟩
  obtain ⟨y0, y1, y2, y3, y4, y5, y6, y7, y8, y9, y10, y11, y12, y13, y14, y15, hy⟩ := len16 (show (setR [x0, x1, x2, x3, x4, x5, x6, x7, x8, x9, x10, x11, x12, x13, x14, x15] A V).length = 16 by rw [setR_len]; rfl)
  exact ⟨[y0, y1, y2, y3, y4, y5, y6, y7, y8, y9, y10, y11, y12, y13, y14, y15], T, [4, 0, 0, 0, 0, 0, 0, 0], M1 xs, rfl, rfl, m1_len hM, m1_p hM, eu_exe [x0, x1, x2, x3, x4, x5, x6, x7, x8, x9, x10, x11, x12, x13, x14, x15] xs (M1 xs) w o A B C m [y0, y1, y2, y3, y4, y5, y6, y7, y8, y9, y10, y11, y12, y13, y14, y15] T [4, 0, 0, 0, 0, 0, 0, 0] rfl hf hd1 (by omega) (eu_jal x0 x1 x2 x3 x4 x5 x6 x7 x8 x9 x10 x11 x12 x13 x14 x15 384 A B C xA xB xC m' V o m y0 y1 y2 y3 y4 y5 y6 y7 y8 y9 y10 y11 y12 y13 y14 y15 (by omega) hA hB hC gA gB gC hm hy T Q ho hV hQ hT) rfl rfl⟩
set_option maxRecDepth 100000 in
theorem us_jalr (x0 x1 x2 x3 x4 x5 x6 x7 x8 x9 x10 x11 x12 x13 x14 x15 w A B C m' fl : Nat) (o m : Int) (xs : List Nat) (hM : Mem fl xs) (hrl : ∀ y ∈ [x0, x1, x2, x3, x4, x5, x6, x7, x8, x9, x10, x11, x12, x13, x14, x15], y < 4294967296) (hw : xs.getD 96 0 = w) (hd1 : Fn Try.prog 47 [.s (.int .u32 w)] [] (· = ⟨.tup [.agg (iv o A B C m), .s (.bool true)], [], []⟩))
    (hA : A < 16) (hB : B < 16) (hC : C < 16) (hm : IntKind.u32.wrap m = (m' : Int)) (hm' : m' < 4294967296) (ho : o = 49) : UsR [x0, x1, x2, x3, x4, x5, x6, x7, x8, x9, x10, x11, x12, x13, x14, x15] fl xs := by
  have hf := fetch1 hM [x0, x1, x2, x3, x4, x5, x6, x7, x8, x9, x10, x11, x12, x13, x14, x15] w rfl hw
  have lA := xs_lt hrl A
  have lB := xs_lt hrl B
  have lC := xs_lt hrl C
  obtain ⟨xA, gA⟩ : ∃ z, [x0, x1, x2, x3, x4, x5, x6, x7, x8, x9, x10, x11, x12, x13, x14, x15].getD A 0 = z := ⟨_, rfl⟩
  obtain ⟨xB, gB⟩ : ∃ z, [x0, x1, x2, x3, x4, x5, x6, x7, x8, x9, x10, x11, x12, x13, x14, x15].getD B 0 = z := ⟨_, rfl⟩
  obtain ⟨xC, gC⟩ : ∃ z, [x0, x1, x2, x3, x4, x5, x6, x7, x8, x9, x10, x11, x12, x13, x14, x15].getD C 0 = z := ⟨_, rfl⟩
  rw [gA] at lA
  rw [gB] at lB
  rw [gC] at lC
  obtain ⟨T, hT⟩ : ∃ T : Nat, IntKind.u32.wrap ((xB : Int) + (m' : Int)) = (T : Int) := ⟨(IntKind.u32.wrap ((xB : Int) + (m' : Int))).toNat, by rw [wu32']; omega⟩
  obtain ⟨V, hV⟩ : ∃ V, 384 + 4 = V := ⟨_, rfl⟩
  obtain ⟨y0, y1, y2, y3, y4, y5, y6, y7, y8, y9, y10, y11, y12, y13, y14, y15, hy⟩ := len16 (show (setR [x0, x1, x2, x3, x4, x5, x6, x7, x8, x9, x10, x11, x12, x13, x14, x15] A V).length = 16 by rw [setR_len]; rfl)
  exact ⟨[y0, y1, y2, y3, y4, y5, y6, y7, y8, y9, y10, y11, y12, y13, y14, y15], T, [4, 0, 0, 0, 0, 0, 0, 0], M1 xs, rfl, rfl, m1_len hM, m1_p hM, eu_exe [x0, x1, x2, x3, x4, x5, x6, x7, x8, x9, x10, x11, x12, x13, x14, x15] xs (M1 xs) w o A B C m [y0, y1, y2, y3, y4, y5, y6, y7, y8, y9, y10, y11, y12, y13, y14, y15] T [4, 0, 0, 0, 0, 0, 0, 0] rfl hf hd1 (by omega) (eu_jalr x0 x1 x2 x3 x4 x5 x6 x7 x8 x9 x10 x11 x12 x13 x14 x15 384 A B C xA xB xC m' V o m y0 y1 y2 y3 y4 y5 y6 y7 y8 y9 y10 y11 y12 y13 y14 y15 (by omega) hA hB hC gA gB gC hm hy T ho hV hT) rfl rfl⟩
set_option maxRecDepth 100000 in
theorem us_ecall (x0 x1 x2 x3 x4 x5 x6 x7 x8 x9 x10 x11 x12 x13 x14 x15 w A B C m' fl : Nat) (o m : Int) (xs : List Nat) (hM : Mem fl xs) (hrl : ∀ y ∈ [x0, x1, x2, x3, x4, x5, x6, x7, x8, x9, x10, x11, x12, x13, x14, x15], y < 4294967296) (hw : xs.getD 96 0 = w) (hd1 : Fn Try.prog 47 [.s (.int .u32 w)] [] (· = ⟨.tup [.agg (iv o A B C m), .s (.bool true)], [], []⟩))
    (hA : A < 16) (hB : B < 16) (hC : C < 16) (hm : IntKind.u32.wrap m = (m' : Int)) (hm' : m' < 4294967296) (ho : o = 56) : UsR [x0, x1, x2, x3, x4, x5, x6, x7, x8, x9, x10, x11, x12, x13, x14, x15] fl xs := by
  have hf := fetch1 hM [x0, x1, x2, x3, x4, x5, x6, x7, x8, x9, x10, x11, x12, x13, x14, x15] w rfl hw
  have lA := xs_lt hrl A
  have lB := xs_lt hrl B
  have lC := xs_lt hrl C
  obtain ⟨xA, gA⟩ : ∃ z, [x0, x1, x2, x3, x4, x5, x6, x7, x8, x9, x10, x11, x12, x13, x14, x15].getD A 0 = z := ⟨_, rfl⟩
  obtain ⟨xB, gB⟩ : ∃ z, [x0, x1, x2, x3, x4, x5, x6, x7, x8, x9, x10, x11, x12, x13, x14, x15].getD B 0 = z := ⟨_, rfl⟩
  obtain ⟨xC, gC⟩ : ∃ z, [x0, x1, x2, x3, x4, x5, x6, x7, x8, x9, x10, x11, x12, x13, x14, x15].getD C 0 = z := ⟨_, rfl⟩
  rw [gA] at lA
  rw [gB] at lB
  rw [gC] at lC
  exact ⟨[x0, x1, x2, x3, x4, x5, x6, x7, x8, x9, x10, x11, x12, x13, x14, x15], 0, [trapS 4, 0, 384, 7, 0, 0, 0, 0], M1 xs, rfl, rfl, m1_len hM, m1_p hM, eu_exe [x0, x1, x2, x3, x4, x5, x6, x7, x8, x9, x10, x11, x12, x13, x14, x15] xs (M1 xs) w o A B C m [x0, x1, x2, x3, x4, x5, x6, x7, x8, x9, x10, x11, x12, x13, x14, x15] 0 [trapS 4, 0, 384, 7, 0, 0, 0, 0] rfl hf hd1 (by omega) (eu_ecall x0 x1 x2 x3 x4 x5 x6 x7 x8 x9 x10 x11 x12 x13 x14 x15 384 A B C xA xB xC m' 0 o m (by omega) hA hB hC gA gB gC hm ho) rfl rfl⟩
set_option maxRecDepth 100000 in
theorem us_priv (x0 x1 x2 x3 x4 x5 x6 x7 x8 x9 x10 x11 x12 x13 x14 x15 w A B C m' fl : Nat) (o m : Int) (xs : List Nat) (hM : Mem fl xs) (hrl : ∀ y ∈ [x0, x1, x2, x3, x4, x5, x6, x7, x8, x9, x10, x11, x12, x13, x14, x15], y < 4294967296) (hw : xs.getD 96 0 = w) (hd1 : Fn Try.prog 47 [.s (.int .u32 w)] [] (· = ⟨.tup [.agg (iv o A B C m), .s (.bool true)], [], []⟩))
    (hA : A < 16) (hB : B < 16) (hC : C < 16) (hm : IntKind.u32.wrap m = (m' : Int)) (hm' : m' < 4294967296) (hwl : w < 4294967296) (ho : 57 ≤ o ∧ o ≤ 64) : UsR [x0, x1, x2, x3, x4, x5, x6, x7, x8, x9, x10, x11, x12, x13, x14, x15] fl xs := by
  have hf := fetch1 hM [x0, x1, x2, x3, x4, x5, x6, x7, x8, x9, x10, x11, x12, x13, x14, x15] w rfl hw
  have lA := xs_lt hrl A
  have lB := xs_lt hrl B
  have lC := xs_lt hrl C
  obtain ⟨xA, gA⟩ : ∃ z, [x0, x1, x2, x3, x4, x5, x6, x7, x8, x9, x10, x11, x12, x13, x14, x15].getD A 0 = z := ⟨_, rfl⟩
  obtain ⟨xB, gB⟩ : ∃ z, [x0, x1, x2, x3, x4, x5, x6, x7, x8, x9, x10, x11, x12, x13, x14, x15].getD B 0 = z := ⟨_, rfl⟩
  obtain ⟨xC, gC⟩ : ∃ z, [x0, x1, x2, x3, x4, x5, x6, x7, x8, x9, x10, x11, x12, x13, x14, x15].getD C 0 = z := ⟨_, rfl⟩
  rw [gA] at lA
  rw [gB] at lB
  rw [gC] at lC
  have ht : Fn Try.prog 19 [.agg (cpuC [x0, x1, x2, x3, x4, x5, x6, x7, x8, x9, x10, x11, x12, x13, x14, x15] 384 [4, 0, 0, 0, 0, 0, 0, 0]), .s (.int .i64 2), .s (.int .u32 w)] [] (· = ⟨.a (.agg (cpuC [x0, x1, x2, x3, x4, x5, x6, x7, x8, x9, x10, x11, x12, x13, x14, x15] 0 [trapS 4, 0, 384, 2, w, 0, 0, 0])), [], []⟩) := trap_fn [x0, x1, x2, x3, x4, x5, x6, x7, x8, x9, x10, x11, x12, x13, x14, x15] 384 [4, 0, 0, 0, 0, 0, 0, 0] 2 w rfl rfl (by simp)
  exact ⟨[x0, x1, x2, x3, x4, x5, x6, x7, x8, x9, x10, x11, x12, x13, x14, x15], 0, [trapS 4, 0, 384, 2, w, 0, 0, 0], M1 xs, rfl, rfl, m1_len hM, m1_p hM, eu_priv [x0, x1, x2, x3, x4, x5, x6, x7, x8, x9, x10, x11, x12, x13, x14, x15] xs (M1 xs) w o A B C m [x0, x1, x2, x3, x4, x5, x6, x7, x8, x9, x10, x11, x12, x13, x14, x15] 0 [trapS 4, 0, 384, 2, w, 0, 0, 0] rfl hf hd1 ho ht rfl rfl⟩
set_option maxRecDepth 100000 in
theorem us_32 (x0 x1 x2 x3 x4 x5 x6 x7 x8 x9 x10 x11 x12 x13 x14 x15 w A B C m' fl : Nat) (o m : Int) (xs : List Nat) (hM : Mem fl xs) (hrl : ∀ y ∈ [x0, x1, x2, x3, x4, x5, x6, x7, x8, x9, x10, x11, x12, x13, x14, x15], y < 4294967296) (hw : xs.getD 96 0 = w) (hd1 : Fn Try.prog 47 [.s (.int .u32 w)] [] (· = ⟨.tup [.agg (iv o A B C m), .s (.bool true)], [], []⟩))
    (hA : A < 16) (hB : B < 16) (hC : C < 16) (hm : IntKind.u32.wrap m = (m' : Int)) (hm' : m' < 4294967296) (ho : o = 32) (hC0 : C = 0) : UsR [x0, x1, x2, x3, x4, x5, x6, x7, x8, x9, x10, x11, x12, x13, x14, x15] fl xs := by
  have hf := fetch1 hM [x0, x1, x2, x3, x4, x5, x6, x7, x8, x9, x10, x11, x12, x13, x14, x15] w rfl hw
  have lA := xs_lt hrl A
  have lB := xs_lt hrl B
  have lC := xs_lt hrl C
  obtain ⟨xA, gA⟩ : ∃ z, [x0, x1, x2, x3, x4, x5, x6, x7, x8, x9, x10, x11, x12, x13, x14, x15].getD A 0 = z := ⟨_, rfl⟩
  obtain ⟨xB, gB⟩ : ∃ z, [x0, x1, x2, x3, x4, x5, x6, x7, x8, x9, x10, x11, x12, x13, x14, x15].getD B 0 = z := ⟨_, rfl⟩
  obtain ⟨xC, gC⟩ : ∃ z, [x0, x1, x2, x3, x4, x5, x6, x7, x8, x9, x10, x11, x12, x13, x14, x15].getD C 0 = z := ⟨_, rfl⟩
  rw [gA] at lA
  rw [gB] at lB
  rw [gC] at lC
  subst ho
  subst hC0
  obtain ⟨va, hv⟩ : ∃ va : Nat, IntKind.u32.wrap ((xB : Int) + (m' : Int)) = (va : Int) := ⟨(IntKind.u32.wrap ((xB : Int) + (m' : Int))).toNat, by rw [wu32']; omega⟩
  have hva : va < 4294967296 := by rw [wu32'] at hv; omega
  have hL := m1_len hM
  have hR := m1_rng hM
  by_cases hal : va % 4 ≠ 0
  · exact ⟨[x0, x1, x2, x3, x4, x5, x6, x7, x8, x9, x10, x11, x12, x13, x14, x15], 0, [trapS 4, 0, 384, 3, va, 0, 0, 0], M1 xs, rfl, rfl, hL, m1_p hM, eu_load [x0, x1, x2, x3, x4, x5, x6, x7, x8, x9, x10, x11, x12, x13, x14, x15] xs (M1 xs) w 32 A B (0 : Nat) m [x0, x1, x2, x3, x4, x5, x6, x7, x8, x9, x10, x11, x12, x13, x14, x15] 0 [trapS 4, 0, 384, 3, va, 0, 0, 0] (M1 xs) rfl hf hd1 (by omega) (uload_trap x0 x1 x2 x3 x4 x5 x6 x7 x8 x9 x10 x11 x12 x13 x14 x15 A B xA xB m' va 32 4 m (M1 xs) (M1 xs) hL hA hB gA gB hm hv (width_fn 32 (by omega) : Fn _ _ _ [] (· = ⟨.a (.s (.int .i64 4)), [], []⟩)) 3 (by omega) (by omega) (ru_mis2 [x0, x1, x2, x3, x4, x5, x6, x7, x8, x9, x10, x11, x12, x13, x14, x15] 384 (M1 xs) va rfl hL hva hal)) rfl rfl⟩
  have hal : va % 4 = 0 := by omega
  rcases wkc2 (M1 xs) va hL hR hva with hwk | ⟨PA, q, hq, hp, hfr, hPA, hwk⟩
  · exact ⟨[x0, x1, x2, x3, x4, x5, x6, x7, x8, x9, x10, x11, x12, x13, x14, x15], 0, [trapS 4, 0, 384, 5, va, 0, 0, 0], M1 xs, rfl, rfl, hL, m1_p hM, eu_load [x0, x1, x2, x3, x4, x5, x6, x7, x8, x9, x10, x11, x12, x13, x14, x15] xs (M1 xs) w 32 A B (0 : Nat) m [x0, x1, x2, x3, x4, x5, x6, x7, x8, x9, x10, x11, x12, x13, x14, x15] 0 [trapS 4, 0, 384, 5, va, 0, 0, 0] (M1 xs) rfl hf hd1 (by omega) (uload_trap x0 x1 x2 x3 x4 x5 x6 x7 x8 x9 x10 x11 x12 x13 x14 x15 A B xA xB m' va 32 4 m (M1 xs) (M1 xs) hL hA hB gA gB hm hv (width_fn 32 (by omega) : Fn _ _ _ [] (· = ⟨.a (.s (.int .i64 4)), [], []⟩)) 5 (by omega) (by omega) (ru_bad42 [x0, x1, x2, x3, x4, x5, x6, x7, x8, x9, x10, x11, x12, x13, x14, x15] 384 (M1 xs) va rfl hL hva (5 : Nat) (by omega) hal hwk)) rfl rfl⟩
  · have hto := touch_fn (M1 xs) q 2 hL hR (by omega)
    have hpq := xs_lt hR q
    obtain ⟨N, hN⟩ : ∃ N, (M1 xs).set q (tcV ((M1 xs).getD q 0) 2) = N := ⟨_, rfl⟩
    have hNl : N.length = 128 := by rw [← hN, List.length_set]; exact hL
    have hNr : ∀ y ∈ N, y < 4294967296 := by rw [← hN]; exact set_rng hR _ _ (tcV_lt _ _ hpq)
    have hNe : ∀ i, i ≠ q → N.getD i 0 = (M1 xs).getD i 0 := fun i hi => by rw [← hN]; exact set_ne _ _ _ _ hi
    rw [hN] at hto
    have hr := ru_ok42 [x0, x1, x2, x3, x4, x5, x6, x7, x8, x9, x10, x11, x12, x13, x14, x15] 384 (M1 xs) va rfl hL hva PA q N hal hwk hto
    have hPl : PA < 512 := by omega
    have hld : ld4 128 PA = true := by unfold ld4 mpg; simp; omega
    have hPn : UsP fl xs N := fun i h => by
      rcases pg hM q 2 hq hp with e | e
      · by_cases h2 : i = q
        · exact .inl (.inl (by omega))
        · exact m1_p hM i (by rw [← hNe i h2]; exact h)
      · by_cases h2 : i = q
        · exact .inl (.inr (by omega))
        · exact m1_p hM i (by rw [← hNe i h2]; exact h)
    have hlo := load4_ok N 128 PA hNl (by omega) (by omega) hld
    obtain ⟨V, hV⟩ : ∃ V, N.getD (PA / 4) 0 = V := ⟨_, rfl⟩
    obtain ⟨y0, y1, y2, y3, y4, y5, y6, y7, y8, y9, y10, y11, y12, y13, y14, y15, hy⟩ := len16 (show (setR [x0, x1, x2, x3, x4, x5, x6, x7, x8, x9, x10, x11, x12, x13, x14, x15] A V).length = 16 by rw [setR_len]; rfl)
    exact ⟨[y0, y1, y2, y3, y4, y5, y6, y7, y8, y9, y10, y11, y12, y13, y14, y15], 388, [4, 0, 0, 0, 0, 0, 0, 0], N, rfl, rfl, hNl, hPn, eu_load [x0, x1, x2, x3, x4, x5, x6, x7, x8, x9, x10, x11, x12, x13, x14, x15] xs (M1 xs) w 32 A B (0 : Nat) m [y0, y1, y2, y3, y4, y5, y6, y7, y8, y9, y10, y11, y12, y13, y14, y15] 388 [4, 0, 0, 0, 0, 0, 0, 0] N rfl hf hd1 (by omega) (uload_ok x0 x1 x2 x3 x4 x5 x6 x7 x8 x9 x10 x11 x12 x13 x14 x15 A B xA xB m' va 32 4 m (M1 xs) N hL hA hB gA gB hm hv (width_fn 32 (by omega) : Fn _ _ _ [] (· = ⟨.a (.s (.int .i64 4)), [], []⟩)) PA (N.getD (PA / 4) 0) V true y0 y1 y2 y3 y4 y5 y6 y7 y8 y9 y10 y11 y12 y13 y14 y15 (by omega) hy hr hlo hV) rfl rfl⟩
set_option maxRecDepth 100000 in
theorem us_33 (x0 x1 x2 x3 x4 x5 x6 x7 x8 x9 x10 x11 x12 x13 x14 x15 w A B C m' fl : Nat) (o m : Int) (xs : List Nat) (hM : Mem fl xs) (hrl : ∀ y ∈ [x0, x1, x2, x3, x4, x5, x6, x7, x8, x9, x10, x11, x12, x13, x14, x15], y < 4294967296) (hw : xs.getD 96 0 = w) (hd1 : Fn Try.prog 47 [.s (.int .u32 w)] [] (· = ⟨.tup [.agg (iv o A B C m), .s (.bool true)], [], []⟩))
    (hA : A < 16) (hB : B < 16) (hC : C < 16) (hm : IntKind.u32.wrap m = (m' : Int)) (hm' : m' < 4294967296) (ho : o = 33) (hC0 : C = 0) : UsR [x0, x1, x2, x3, x4, x5, x6, x7, x8, x9, x10, x11, x12, x13, x14, x15] fl xs := by
  have hf := fetch1 hM [x0, x1, x2, x3, x4, x5, x6, x7, x8, x9, x10, x11, x12, x13, x14, x15] w rfl hw
  have lA := xs_lt hrl A
  have lB := xs_lt hrl B
  have lC := xs_lt hrl C
  obtain ⟨xA, gA⟩ : ∃ z, [x0, x1, x2, x3, x4, x5, x6, x7, x8, x9, x10, x11, x12, x13, x14, x15].getD A 0 = z := ⟨_, rfl⟩
  obtain ⟨xB, gB⟩ : ∃ z, [x0, x1, x2, x3, x4, x5, x6, x7, x8, x9, x10, x11, x12, x13, x14, x15].getD B 0 = z := ⟨_, rfl⟩
  obtain ⟨xC, gC⟩ : ∃ z, [x0, x1, x2, x3, x4, x5, x6, x7, x8, x9, x10, x11, x12, x13, x14, x15].getD C 0 = z := ⟨_, rfl⟩
  rw [gA] at lA
  rw [gB] at lB
  rw [gC] at lC
  subst ho
  subst hC0
  obtain ⟨va, hv⟩ : ∃ va : Nat, IntKind.u32.wrap ((xB : Int) + (m' : Int)) = (va : Int) := ⟨(IntKind.u32.wrap ((xB : Int) + (m' : Int))).toNat, by rw [wu32']; omega⟩
  have hva : va < 4294967296 := by rw [wu32'] at hv; omega
  have hL := m1_len hM
  have hR := m1_rng hM
  rcases wkc2 (M1 xs) va hL hR hva with hwk | ⟨PA, q, hq, hp, hfr, hPA, hwk⟩
  · exact ⟨[x0, x1, x2, x3, x4, x5, x6, x7, x8, x9, x10, x11, x12, x13, x14, x15], 0, [trapS 4, 0, 384, 5, va, 0, 0, 0], M1 xs, rfl, rfl, hL, m1_p hM, eu_load [x0, x1, x2, x3, x4, x5, x6, x7, x8, x9, x10, x11, x12, x13, x14, x15] xs (M1 xs) w 33 A B (0 : Nat) m [x0, x1, x2, x3, x4, x5, x6, x7, x8, x9, x10, x11, x12, x13, x14, x15] 0 [trapS 4, 0, 384, 5, va, 0, 0, 0] (M1 xs) rfl hf hd1 (by omega) (uload_trap x0 x1 x2 x3 x4 x5 x6 x7 x8 x9 x10 x11 x12 x13 x14 x15 A B xA xB m' va 33 1 m (M1 xs) (M1 xs) hL hA hB gA gB hm hv (width_fn 33 (by omega) : Fn _ _ _ [] (· = ⟨.a (.s (.int .i64 1)), [], []⟩)) 5 (by omega) (by omega) (ru_bad12 [x0, x1, x2, x3, x4, x5, x6, x7, x8, x9, x10, x11, x12, x13, x14, x15] 384 (M1 xs) va rfl hL hva (5 : Nat) (by omega) hwk)) rfl rfl⟩
  · have hto := touch_fn (M1 xs) q 2 hL hR (by omega)
    have hpq := xs_lt hR q
    obtain ⟨N, hN⟩ : ∃ N, (M1 xs).set q (tcV ((M1 xs).getD q 0) 2) = N := ⟨_, rfl⟩
    have hNl : N.length = 128 := by rw [← hN, List.length_set]; exact hL
    have hNr : ∀ y ∈ N, y < 4294967296 := by rw [← hN]; exact set_rng hR _ _ (tcV_lt _ _ hpq)
    have hNe : ∀ i, i ≠ q → N.getD i 0 = (M1 xs).getD i 0 := fun i hi => by rw [← hN]; exact set_ne _ _ _ _ hi
    rw [hN] at hto
    have hr := ru_ok12 [x0, x1, x2, x3, x4, x5, x6, x7, x8, x9, x10, x11, x12, x13, x14, x15] 384 (M1 xs) va rfl hL hva PA q N hwk hto
    have hPl : PA < 512 := by omega
    have hld : ld1 128 PA = true := by unfold ld1 mpg; simp; omega
    have hPn : UsP fl xs N := fun i h => by
      rcases pg hM q 2 hq hp with e | e
      · by_cases h2 : i = q
        · exact .inl (.inl (by omega))
        · exact m1_p hM i (by rw [← hNe i h2]; exact h)
      · by_cases h2 : i = q
        · exact .inl (.inr (by omega))
        · exact m1_p hM i (by rw [← hNe i h2]; exact h)
    have hlo := load1_ok N 128 PA hNl hNr (by omega) (by omega) hld
    have hby : byN (N.getD (PA / 4) 0) PA < 4294967296 := by
      unfold byN
      exact Nat.lt_of_lt_of_le (Nat.mod_lt _ (by omega)) (by decide)
    obtain ⟨V, hV⟩ : ∃ V, sx8 (byN (N.getD (PA / 4) 0) PA) = V := ⟨_, rfl⟩
    obtain ⟨y0, y1, y2, y3, y4, y5, y6, y7, y8, y9, y10, y11, y12, y13, y14, y15, hy⟩ := len16 (show (setR [x0, x1, x2, x3, x4, x5, x6, x7, x8, x9, x10, x11, x12, x13, x14, x15] A V).length = 16 by rw [setR_len]; rfl)
    exact ⟨[y0, y1, y2, y3, y4, y5, y6, y7, y8, y9, y10, y11, y12, y13, y14, y15], 388, [4, 0, 0, 0, 0, 0, 0, 0], N, rfl, rfl, hNl, hPn, eu_load [x0, x1, x2, x3, x4, x5, x6, x7, x8, x9, x10, x11, x12, x13, x14, x15] xs (M1 xs) w 33 A B (0 : Nat) m [y0, y1, y2, y3, y4, y5, y6, y7, y8, y9, y10, y11, y12, y13, y14, y15] 388 [4, 0, 0, 0, 0, 0, 0, 0] N rfl hf hd1 (by omega) (uload_sx x0 x1 x2 x3 x4 x5 x6 x7 x8 x9 x10 x11 x12 x13 x14 x15 A B xA xB m' va 33 1 m (M1 xs) N hL hA hB gA gB hm hv (width_fn 33 (by omega) : Fn _ _ _ [] (· = ⟨.a (.s (.int .i64 1)), [], []⟩)) PA (byN (N.getD (PA / 4) 0) PA) V true y0 y1 y2 y3 y4 y5 y6 y7 y8 y9 y10 y11 y12 y13 y14 y15 (by omega) hy hr hlo hby hV) rfl rfl⟩
set_option maxRecDepth 100000 in
theorem us_34 (x0 x1 x2 x3 x4 x5 x6 x7 x8 x9 x10 x11 x12 x13 x14 x15 w A B C m' fl : Nat) (o m : Int) (xs : List Nat) (hM : Mem fl xs) (hrl : ∀ y ∈ [x0, x1, x2, x3, x4, x5, x6, x7, x8, x9, x10, x11, x12, x13, x14, x15], y < 4294967296) (hw : xs.getD 96 0 = w) (hd1 : Fn Try.prog 47 [.s (.int .u32 w)] [] (· = ⟨.tup [.agg (iv o A B C m), .s (.bool true)], [], []⟩))
    (hA : A < 16) (hB : B < 16) (hC : C < 16) (hm : IntKind.u32.wrap m = (m' : Int)) (hm' : m' < 4294967296) (ho : o = 34) (hC0 : C = 0) : UsR [x0, x1, x2, x3, x4, x5, x6, x7, x8, x9, x10, x11, x12, x13, x14, x15] fl xs := by
  have hf := fetch1 hM [x0, x1, x2, x3, x4, x5, x6, x7, x8, x9, x10, x11, x12, x13, x14, x15] w rfl hw
  have lA := xs_lt hrl A
  have lB := xs_lt hrl B
  have lC := xs_lt hrl C
  obtain ⟨xA, gA⟩ : ∃ z, [x0, x1, x2, x3, x4, x5, x6, x7, x8, x9, x10, x11, x12, x13, x14, x15].getD A 0 = z := ⟨_, rfl⟩
  obtain ⟨xB, gB⟩ : ∃ z, [x0, x1, x2, x3, x4, x5, x6, x7, x8, x9, x10, x11, x12, x13, x14, x15].getD B 0 = z := ⟨_, rfl⟩
  obtain ⟨xC, gC⟩ : ∃ z, [x0, x1, x2, x3, x4, x5, x6, x7, x8, x9, x10, x11, x12, x13, x14, x15].getD C 0 = z := ⟨_, rfl⟩
  rw [gA] at lA
  rw [gB] at lB
  rw [gC] at lC
  subst ho
  subst hC0
  obtain ⟨va, hv⟩ : ∃ va : Nat, IntKind.u32.wrap ((xB : Int) + (m' : Int)) = (va : Int) := ⟨(IntKind.u32.wrap ((xB : Int) + (m' : Int))).toNat, by rw [wu32']; omega⟩
  have hva : va < 4294967296 := by rw [wu32'] at hv; omega
  have hL := m1_len hM
  have hR := m1_rng hM
  rcases wkc2 (M1 xs) va hL hR hva with hwk | ⟨PA, q, hq, hp, hfr, hPA, hwk⟩
  · exact ⟨[x0, x1, x2, x3, x4, x5, x6, x7, x8, x9, x10, x11, x12, x13, x14, x15], 0, [trapS 4, 0, 384, 5, va, 0, 0, 0], M1 xs, rfl, rfl, hL, m1_p hM, eu_load [x0, x1, x2, x3, x4, x5, x6, x7, x8, x9, x10, x11, x12, x13, x14, x15] xs (M1 xs) w 34 A B (0 : Nat) m [x0, x1, x2, x3, x4, x5, x6, x7, x8, x9, x10, x11, x12, x13, x14, x15] 0 [trapS 4, 0, 384, 5, va, 0, 0, 0] (M1 xs) rfl hf hd1 (by omega) (uload_trap x0 x1 x2 x3 x4 x5 x6 x7 x8 x9 x10 x11 x12 x13 x14 x15 A B xA xB m' va 34 1 m (M1 xs) (M1 xs) hL hA hB gA gB hm hv (width_fn 34 (by omega) : Fn _ _ _ [] (· = ⟨.a (.s (.int .i64 1)), [], []⟩)) 5 (by omega) (by omega) (ru_bad12 [x0, x1, x2, x3, x4, x5, x6, x7, x8, x9, x10, x11, x12, x13, x14, x15] 384 (M1 xs) va rfl hL hva (5 : Nat) (by omega) hwk)) rfl rfl⟩
  · have hto := touch_fn (M1 xs) q 2 hL hR (by omega)
    have hpq := xs_lt hR q
    obtain ⟨N, hN⟩ : ∃ N, (M1 xs).set q (tcV ((M1 xs).getD q 0) 2) = N := ⟨_, rfl⟩
    have hNl : N.length = 128 := by rw [← hN, List.length_set]; exact hL
    have hNr : ∀ y ∈ N, y < 4294967296 := by rw [← hN]; exact set_rng hR _ _ (tcV_lt _ _ hpq)
    have hNe : ∀ i, i ≠ q → N.getD i 0 = (M1 xs).getD i 0 := fun i hi => by rw [← hN]; exact set_ne _ _ _ _ hi
    rw [hN] at hto
    have hr := ru_ok12 [x0, x1, x2, x3, x4, x5, x6, x7, x8, x9, x10, x11, x12, x13, x14, x15] 384 (M1 xs) va rfl hL hva PA q N hwk hto
    have hPl : PA < 512 := by omega
    have hld : ld1 128 PA = true := by unfold ld1 mpg; simp; omega
    have hPn : UsP fl xs N := fun i h => by
      rcases pg hM q 2 hq hp with e | e
      · by_cases h2 : i = q
        · exact .inl (.inl (by omega))
        · exact m1_p hM i (by rw [← hNe i h2]; exact h)
      · by_cases h2 : i = q
        · exact .inl (.inr (by omega))
        · exact m1_p hM i (by rw [← hNe i h2]; exact h)
    have hlo := load1_ok N 128 PA hNl hNr (by omega) (by omega) hld
    obtain ⟨V, hV⟩ : ∃ V, byN (N.getD (PA / 4) 0) PA = V := ⟨_, rfl⟩
    obtain ⟨y0, y1, y2, y3, y4, y5, y6, y7, y8, y9, y10, y11, y12, y13, y14, y15, hy⟩ := len16 (show (setR [x0, x1, x2, x3, x4, x5, x6, x7, x8, x9, x10, x11, x12, x13, x14, x15] A V).length = 16 by rw [setR_len]; rfl)
    exact ⟨[y0, y1, y2, y3, y4, y5, y6, y7, y8, y9, y10, y11, y12, y13, y14, y15], 388, [4, 0, 0, 0, 0, 0, 0, 0], N, rfl, rfl, hNl, hPn, eu_load [x0, x1, x2, x3, x4, x5, x6, x7, x8, x9, x10, x11, x12, x13, x14, x15] xs (M1 xs) w 34 A B (0 : Nat) m [y0, y1, y2, y3, y4, y5, y6, y7, y8, y9, y10, y11, y12, y13, y14, y15] 388 [4, 0, 0, 0, 0, 0, 0, 0] N rfl hf hd1 (by omega) (uload_ok x0 x1 x2 x3 x4 x5 x6 x7 x8 x9 x10 x11 x12 x13 x14 x15 A B xA xB m' va 34 1 m (M1 xs) N hL hA hB gA gB hm hv (width_fn 34 (by omega) : Fn _ _ _ [] (· = ⟨.a (.s (.int .i64 1)), [], []⟩)) PA (byN (N.getD (PA / 4) 0) PA) V true y0 y1 y2 y3 y4 y5 y6 y7 y8 y9 y10 y11 y12 y13 y14 y15 (by omega) hy hr hlo hV) rfl rfl⟩
set_option maxRecDepth 100000 in
theorem us_35 (x0 x1 x2 x3 x4 x5 x6 x7 x8 x9 x10 x11 x12 x13 x14 x15 w A B C m' fl : Nat) (o m : Int) (xs : List Nat) (hM : Mem fl xs) (hrl : ∀ y ∈ [x0, x1, x2, x3, x4, x5, x6, x7, x8, x9, x10, x11, x12, x13, x14, x15], y < 4294967296) (hw : xs.getD 96 0 = w) (hd1 : Fn Try.prog 47 [.s (.int .u32 w)] [] (· = ⟨.tup [.agg (iv o A B C m), .s (.bool true)], [], []⟩))
    (hA : A < 16) (hB : B < 16) (hC : C < 16) (hm : IntKind.u32.wrap m = (m' : Int)) (hm' : m' < 4294967296) (ho : o = 35) (hC0 : C = 0) : UsR [x0, x1, x2, x3, x4, x5, x6, x7, x8, x9, x10, x11, x12, x13, x14, x15] fl xs := by
  have hf := fetch1 hM [x0, x1, x2, x3, x4, x5, x6, x7, x8, x9, x10, x11, x12, x13, x14, x15] w rfl hw
  have lA := xs_lt hrl A
  have lB := xs_lt hrl B
  have lC := xs_lt hrl C
  obtain ⟨xA, gA⟩ : ∃ z, [x0, x1, x2, x3, x4, x5, x6, x7, x8, x9, x10, x11, x12, x13, x14, x15].getD A 0 = z := ⟨_, rfl⟩
  obtain ⟨xB, gB⟩ : ∃ z, [x0, x1, x2, x3, x4, x5, x6, x7, x8, x9, x10, x11, x12, x13, x14, x15].getD B 0 = z := ⟨_, rfl⟩
  obtain ⟨xC, gC⟩ : ∃ z, [x0, x1, x2, x3, x4, x5, x6, x7, x8, x9, x10, x11, x12, x13, x14, x15].getD C 0 = z := ⟨_, rfl⟩
  rw [gA] at lA
  rw [gB] at lB
  rw [gC] at lC
  subst ho
  subst hC0
  obtain ⟨va, hv⟩ : ∃ va : Nat, IntKind.u32.wrap ((xB : Int) + (m' : Int)) = (va : Int) := ⟨(IntKind.u32.wrap ((xB : Int) + (m' : Int))).toNat, by rw [wu32']; omega⟩
  have hva : va < 4294967296 := by rw [wu32'] at hv; omega
  have hL := m1_len hM
  have hR := m1_rng hM
  by_cases hal : va % 4 ≠ 0
  · exact ⟨[x0, x1, x2, x3, x4, x5, x6, x7, x8, x9, x10, x11, x12, x13, x14, x15], 0, [trapS 4, 0, 384, 3, va, 0, 0, 0], M1 xs, rfl, rfl, hL, m1_p hM, eu_store [x0, x1, x2, x3, x4, x5, x6, x7, x8, x9, x10, x11, x12, x13, x14, x15] xs (M1 xs) w 35 A B (0 : Nat) m [x0, x1, x2, x3, x4, x5, x6, x7, x8, x9, x10, x11, x12, x13, x14, x15] 0 [trapS 4, 0, 384, 3, va, 0, 0, 0] (M1 xs) rfl hf hd1 (by omega) (ustore_trap x0 x1 x2 x3 x4 x5 x6 x7 x8 x9 x10 x11 x12 x13 x14 x15 A B xA xB m' va 35 4 m (M1 xs) (M1 xs) hL hA hB gA gB hm hv (width_fn 35 (by omega) : Fn _ _ _ [] (· = ⟨.a (.s (.int .i64 4)), [], []⟩)) 3 (by omega) (by omega) (ru_mis3 [x0, x1, x2, x3, x4, x5, x6, x7, x8, x9, x10, x11, x12, x13, x14, x15] 384 (M1 xs) va rfl hL hva hal)) rfl rfl⟩
  have hal : va % 4 = 0 := by omega
  rcases wkc3 (M1 xs) va hL hR hva with hwk | ⟨PA, q, hq, hp, hfr, hPA, hwk⟩
  · exact ⟨[x0, x1, x2, x3, x4, x5, x6, x7, x8, x9, x10, x11, x12, x13, x14, x15], 0, [trapS 4, 0, 384, 6, va, 0, 0, 0], M1 xs, rfl, rfl, hL, m1_p hM, eu_store [x0, x1, x2, x3, x4, x5, x6, x7, x8, x9, x10, x11, x12, x13, x14, x15] xs (M1 xs) w 35 A B (0 : Nat) m [x0, x1, x2, x3, x4, x5, x6, x7, x8, x9, x10, x11, x12, x13, x14, x15] 0 [trapS 4, 0, 384, 6, va, 0, 0, 0] (M1 xs) rfl hf hd1 (by omega) (ustore_trap x0 x1 x2 x3 x4 x5 x6 x7 x8 x9 x10 x11 x12 x13 x14 x15 A B xA xB m' va 35 4 m (M1 xs) (M1 xs) hL hA hB gA gB hm hv (width_fn 35 (by omega) : Fn _ _ _ [] (· = ⟨.a (.s (.int .i64 4)), [], []⟩)) 6 (by omega) (by omega) (ru_bad43 [x0, x1, x2, x3, x4, x5, x6, x7, x8, x9, x10, x11, x12, x13, x14, x15] 384 (M1 xs) va rfl hL hva (6 : Nat) (by omega) hal hwk)) rfl rfl⟩
  · have hto := touch_fn (M1 xs) q 3 hL hR (by omega)
    have hpq := xs_lt hR q
    obtain ⟨N, hN⟩ : ∃ N, (M1 xs).set q (tcV ((M1 xs).getD q 0) 3) = N := ⟨_, rfl⟩
    have hNl : N.length = 128 := by rw [← hN, List.length_set]; exact hL
    have hNr : ∀ y ∈ N, y < 4294967296 := by rw [← hN]; exact set_rng hR _ _ (tcV_lt _ _ hpq)
    have hNe : ∀ i, i ≠ q → N.getD i 0 = (M1 xs).getD i 0 := fun i hi => by rw [← hN]; exact set_ne _ _ _ _ hi
    rw [hN] at hto
    have hr := ru_ok43 [x0, x1, x2, x3, x4, x5, x6, x7, x8, x9, x10, x11, x12, x13, x14, x15] 384 (M1 xs) va rfl hL hva PA q N hal hwk hto
    have hPl : PA < 512 := by omega
    have hld : ld4 128 PA = true := by unfold ld4 mpg; simp; omega
    obtain ⟨e2, e3, e4⟩ := pg_st hM q hq hp
    have hPr : 64 ≤ PA / 4 ∧ PA / 4 < 96 := by rw [e4] at hPA; omega
    have hst := store4_ok N 128 PA xA hNl (by omega) (by omega) hld
    obtain ⟨Z, hZ⟩ : ∃ Z, N.set (PA / 4) xA = Z := ⟨_, rfl⟩
    have hZl : Z.length = 128 := by rw [← hZ, List.length_set]; exact hNl
    have hZe : ∀ i, i ≠ PA / 4 → Z.getD i 0 = N.getD i 0 := fun i hi => by rw [← hZ]; exact set_ne _ _ _ _ hi
    rw [hZ] at hst
    have hPn : UsP fl xs Z := fun i h => by
      by_cases h1 : i = PA / 4
      · exact .inr ⟨by omega, by omega, e3⟩
      by_cases h2 : i = q
      · exact .inl (.inl (by omega))
      · exact m1_p hM i (by rw [← hNe i h2, ← hZe i h1]; exact h)
    exact ⟨[x0, x1, x2, x3, x4, x5, x6, x7, x8, x9, x10, x11, x12, x13, x14, x15], 388, [4, 0, 0, 0, 0, 0, 0, 0], Z, rfl, rfl, hZl, hPn, eu_store [x0, x1, x2, x3, x4, x5, x6, x7, x8, x9, x10, x11, x12, x13, x14, x15] xs (M1 xs) w 35 A B (0 : Nat) m [x0, x1, x2, x3, x4, x5, x6, x7, x8, x9, x10, x11, x12, x13, x14, x15] 388 [4, 0, 0, 0, 0, 0, 0, 0] Z rfl hf hd1 (by omega) (ustore_ok x0 x1 x2 x3 x4 x5 x6 x7 x8 x9 x10 x11 x12 x13 x14 x15 A B xA xB m' va 35 4 m (M1 xs) N hL hA hB gA gB hm hv (width_fn 35 (by omega) : Fn _ _ _ [] (· = ⟨.a (.s (.int .i64 4)), [], []⟩)) PA Z true (by omega) hr hst) rfl rfl⟩
set_option maxRecDepth 100000 in
theorem us_36 (x0 x1 x2 x3 x4 x5 x6 x7 x8 x9 x10 x11 x12 x13 x14 x15 w A B C m' fl : Nat) (o m : Int) (xs : List Nat) (hM : Mem fl xs) (hrl : ∀ y ∈ [x0, x1, x2, x3, x4, x5, x6, x7, x8, x9, x10, x11, x12, x13, x14, x15], y < 4294967296) (hw : xs.getD 96 0 = w) (hd1 : Fn Try.prog 47 [.s (.int .u32 w)] [] (· = ⟨.tup [.agg (iv o A B C m), .s (.bool true)], [], []⟩))
    (hA : A < 16) (hB : B < 16) (hC : C < 16) (hm : IntKind.u32.wrap m = (m' : Int)) (hm' : m' < 4294967296) (ho : o = 36) (hC0 : C = 0) : UsR [x0, x1, x2, x3, x4, x5, x6, x7, x8, x9, x10, x11, x12, x13, x14, x15] fl xs := by
  have hf := fetch1 hM [x0, x1, x2, x3, x4, x5, x6, x7, x8, x9, x10, x11, x12, x13, x14, x15] w rfl hw
  have lA := xs_lt hrl A
  have lB := xs_lt hrl B
  have lC := xs_lt hrl C
  obtain ⟨xA, gA⟩ : ∃ z, [x0, x1, x2, x3, x4, x5, x6, x7, x8, x9, x10, x11, x12, x13, x14, x15].getD A 0 = z := ⟨_, rfl⟩
  obtain ⟨xB, gB⟩ : ∃ z, [x0, x1, x2, x3, x4, x5, x6, x7, x8, x9, x10, x11, x12, x13, x14, x15].getD B 0 = z := ⟨_, rfl⟩
  obtain ⟨xC, gC⟩ : ∃ z, [x0, x1, x2, x3, x4, x5, x6, x7, x8, x9, x10, x11, x12, x13, x14, x15].getD C 0 = z := ⟨_, rfl⟩
  rw [gA] at lA
  rw [gB] at lB
  rw [gC] at lC
  subst ho
  subst hC0
  obtain ⟨va, hv⟩ : ∃ va : Nat, IntKind.u32.wrap ((xB : Int) + (m' : Int)) = (va : Int) := ⟨(IntKind.u32.wrap ((xB : Int) + (m' : Int))).toNat, by rw [wu32']; omega⟩
  have hva : va < 4294967296 := by rw [wu32'] at hv; omega
  have hL := m1_len hM
  have hR := m1_rng hM
  rcases wkc3 (M1 xs) va hL hR hva with hwk | ⟨PA, q, hq, hp, hfr, hPA, hwk⟩
  · exact ⟨[x0, x1, x2, x3, x4, x5, x6, x7, x8, x9, x10, x11, x12, x13, x14, x15], 0, [trapS 4, 0, 384, 6, va, 0, 0, 0], M1 xs, rfl, rfl, hL, m1_p hM, eu_store [x0, x1, x2, x3, x4, x5, x6, x7, x8, x9, x10, x11, x12, x13, x14, x15] xs (M1 xs) w 36 A B (0 : Nat) m [x0, x1, x2, x3, x4, x5, x6, x7, x8, x9, x10, x11, x12, x13, x14, x15] 0 [trapS 4, 0, 384, 6, va, 0, 0, 0] (M1 xs) rfl hf hd1 (by omega) (ustore_trap x0 x1 x2 x3 x4 x5 x6 x7 x8 x9 x10 x11 x12 x13 x14 x15 A B xA xB m' va 36 1 m (M1 xs) (M1 xs) hL hA hB gA gB hm hv (width_fn 36 (by omega) : Fn _ _ _ [] (· = ⟨.a (.s (.int .i64 1)), [], []⟩)) 6 (by omega) (by omega) (ru_bad13 [x0, x1, x2, x3, x4, x5, x6, x7, x8, x9, x10, x11, x12, x13, x14, x15] 384 (M1 xs) va rfl hL hva (6 : Nat) (by omega) hwk)) rfl rfl⟩
  · have hto := touch_fn (M1 xs) q 3 hL hR (by omega)
    have hpq := xs_lt hR q
    obtain ⟨N, hN⟩ : ∃ N, (M1 xs).set q (tcV ((M1 xs).getD q 0) 3) = N := ⟨_, rfl⟩
    have hNl : N.length = 128 := by rw [← hN, List.length_set]; exact hL
    have hNr : ∀ y ∈ N, y < 4294967296 := by rw [← hN]; exact set_rng hR _ _ (tcV_lt _ _ hpq)
    have hNe : ∀ i, i ≠ q → N.getD i 0 = (M1 xs).getD i 0 := fun i hi => by rw [← hN]; exact set_ne _ _ _ _ hi
    rw [hN] at hto
    have hr := ru_ok13 [x0, x1, x2, x3, x4, x5, x6, x7, x8, x9, x10, x11, x12, x13, x14, x15] 384 (M1 xs) va rfl hL hva PA q N hwk hto
    have hPl : PA < 512 := by omega
    have hld : ld1 128 PA = true := by unfold ld1 mpg; simp; omega
    obtain ⟨e2, e3, e4⟩ := pg_st hM q hq hp
    have hPr : 64 ≤ PA / 4 ∧ PA / 4 < 96 := by rw [e4] at hPA; omega
    have hst := store1_ok N 128 PA xA hNl (by omega) (by omega) hld
    obtain ⟨Z, hZ⟩ : ∃ Z, put1 N PA xA = Z := ⟨_, rfl⟩
    have hZl : Z.length = 128 := by rw [← hZ]; unfold put1; rw [List.length_set]; exact hNl
    have hZe : ∀ i, i ≠ PA / 4 → Z.getD i 0 = N.getD i 0 := fun i hi => by rw [← hZ]; unfold put1; exact set_ne _ _ _ _ hi
    rw [hZ] at hst
    have hPn : UsP fl xs Z := fun i h => by
      by_cases h1 : i = PA / 4
      · exact .inr ⟨by omega, by omega, e3⟩
      by_cases h2 : i = q
      · exact .inl (.inl (by omega))
      · exact m1_p hM i (by rw [← hNe i h2, ← hZe i h1]; exact h)
    exact ⟨[x0, x1, x2, x3, x4, x5, x6, x7, x8, x9, x10, x11, x12, x13, x14, x15], 388, [4, 0, 0, 0, 0, 0, 0, 0], Z, rfl, rfl, hZl, hPn, eu_store [x0, x1, x2, x3, x4, x5, x6, x7, x8, x9, x10, x11, x12, x13, x14, x15] xs (M1 xs) w 36 A B (0 : Nat) m [x0, x1, x2, x3, x4, x5, x6, x7, x8, x9, x10, x11, x12, x13, x14, x15] 388 [4, 0, 0, 0, 0, 0, 0, 0] Z rfl hf hd1 (by omega) (ustore_ok x0 x1 x2 x3 x4 x5 x6 x7 x8 x9 x10 x11 x12 x13 x14 x15 A B xA xB m' va 36 1 m (M1 xs) N hL hA hB gA gB hm hv (width_fn 36 (by omega) : Fn _ _ _ [] (· = ⟨.a (.s (.int .i64 1)), [], []⟩)) PA Z true (by omega) hr hst) rfl rfl⟩
end Go.Proofs.Ytckdamhnmcmbbaa
