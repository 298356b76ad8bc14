/- Both sides execute an instruction alike. -/
import Derived.Test.YtckdamhnmcmbbaaCiG
import Derived.Test.YtckdamhnmcmbbaaPrv0
import Derived.Test.YtckdamhnmcmbbaaTrfE
namespace Go.Proofs.Ytckdamhnmcmbbaa
open Go Go.RowKit
set_option linter.unusedSimpArgs false
set_option linter.unusedVariables false

def Both (x : List Nat) (pc : Nat) (xs : List Nat) : Prop :=
  ∃ (x' : List Nat) (pc' : Nat) (c' ys : List Nat) (e0 e1 e2 e3 : Int), x'.length = 16 ∧ c'.length = 8 ∧ ys.length = 128 ∧
    Fn Try.prog 28 [.agg (cpuC x pc [1, 0, 0, 0, 0, 0, 0, 0]), .s (.sl 0 0 (128 : Nat))] [⟨false, 1, wsv xs⟩] (· = ⟨.tup [.agg (cpuC x' pc' c'), .s (.sl 1 0 (128 : Nat)), .agg [.int .i64 e0, .int .i64 e1, .int .i64 e2, .int .u32 e3]], [], [⟨true, 1, wsv ys⟩]⟩) ∧
    Fn Try.prog 29 [.agg (cpuC x pc [1, 0, 0, 0, 0, 0, 0, 0]), .s (.sl 0 0 (128 : Nat))] [⟨false, 1, wsv xs⟩] (· = ⟨.tup [.agg (cpuC x' pc' c'), .s (.sl 1 0 (128 : Nat)), .agg [.int .i64 e0, .int .i64 e1, .int .i64 e2, .int .u32 e3]], [], [⟨true, 1, wsv ys⟩]⟩)
theorem wr_form (x : List Nat) (pc : Nat) (m : Int) (v : Nat) : ∃ z0 z1 z2 z3 z4 z5 z6 z7 : Nat, wrC x pc [1, 0, 0, 0, 0, 0, 0, 0] m v = cpuC x pc [z0, z1, z2, z3, z4, z5, z6, z7] := by
  unfold wrC
  repeat' split
  all_goals exact ⟨_, _, _, _, _, _, _, _, rfl⟩
theorem put1_len (xs : List Nat) (a v : Nat) : (put1 xs a v).length = xs.length := by unfold put1; simp
set_option maxRecDepth 100000 in
theorem both_alu3 (x0 x1 x2 x3 x4 x5 x6 x7 x8 x9 x10 x11 x12 x13 x14 x15 pc w A B C m' : Nat) (o m : Int) (xs : List Nat) (hrl : ∀ y ∈ [x0, x1, x2, x3, x4, x5, x6, x7, x8, x9, x10, x11, x12, x13, x14, x15], y < 4294967296) (hl : xs.length = 128) (hxs : ∀ y ∈ xs, y < 4294967296) (hpc : pc < 512) (hld : ld4 128 pc = true) (hw : xs.getD (pc / 4) 0 = w)
    (hd1 : Fn Try.prog 47 [.s (.int .u32 w)] [] (· = ⟨.tup [.agg (iv o A B C m), .s (.bool true)], [], []⟩)) (hd2 : Fn Try.prog 71 [.s (.int .u32 w)] [] (· = ⟨.tup [.agg (iv o A B C m), .s (.bool true)], [], []⟩))
    (hA : A < 16) (hB : B < 16) (hC : C < 16) (hm : IntKind.u32.wrap m = (m' : Int)) (hm' : m' < 4294967296) (ho : 1 ≤ o ∧ o ≤ 13) : Both [x0, x1, x2, x3, x4, x5, x6, x7, x8, x9, x10, x11, x12, x13, x14, x15] pc xs := by
  have lA := xs_lt hrl A
  have lB := xs_lt hrl B
  have lC := xs_lt hrl C
  obtain ⟨xA, gA⟩ : ∃ z, [x0, x1, x2, x3, x4, x5, x6, x7, x8, x9, x10, x11, x12, x13, x14, x15].getD A 0 = z := ⟨_, rfl⟩
  obtain ⟨xB, gB⟩ : ∃ z, [x0, x1, x2, x3, x4, x5, x6, x7, x8, x9, x10, x11, x12, x13, x14, x15].getD B 0 = z := ⟨_, rfl⟩
  obtain ⟨xC, gC⟩ : ∃ z, [x0, x1, x2, x3, x4, x5, x6, x7, x8, x9, x10, x11, x12, x13, x14, x15].getD C 0 = z := ⟨_, rfl⟩
  rw [gA] at lA
  rw [gB] at lB
  rw [gC] at lC
  obtain ⟨V, hV⟩ : ∃ V, aluN o xB xC = V := ⟨_, rfl⟩
  obtain ⟨y0, y1, y2, y3, y4, y5, y6, y7, y8, y9, y10, y11, y12, y13, y14, y15, hy⟩ := len16 (show (setR [x0, x1, x2, x3, x4, x5, x6, x7, x8, x9, x10, x11, x12, x13, x14, x15] A V).length = 16 by rw [setR_len]; rfl)
  exact ⟨[y0, y1, y2, y3, y4, y5, y6, y7, y8, y9, y10, y11, y12, y13, y14, y15], pc + 4, [1, 0, 0, 0, 0, 0, 0, 0], xs, 0, 0, 0, 0, rfl, rfl, hl, exec_exe [x0, x1, x2, x3, x4, x5, x6, x7, x8, x9, x10, x11, x12, x13, x14, x15] pc [1, 0, 0, 0, 0, 0, 0, 0] xs 128 w o A B C m [y0, y1, y2, y3, y4, y5, y6, y7, y8, y9, y10, y11, y12, y13, y14, y15] (pc + 4) [1, 0, 0, 0, 0, 0, 0, 0] 0 0 0 0 rfl rfl rfl hl (by omega) (by omega) hld hw hd1 (decide_eq_false (by omega)) (by omega) (ex_alu3 x0 x1 x2 x3 x4 x5 x6 x7 x8 x9 x10 x11 x12 x13 x14 x15 pc A B C xA xB xC m' V o m y0 y1 y2 y3 y4 y5 y6 y7 y8 y9 y10 y11 y12 y13 y14 y15 hpc hA hB hC gA gB gC hm hy ho lB lC hV) rfl rfl, rexec [x0, x1, x2, x3, x4, x5, x6, x7, x8, x9, x10, x11, x12, x13, x14, x15] pc xs [y0, y1, y2, y3, y4, y5, y6, y7, y8, y9, y10, y11, y12, y13, y14, y15] (pc + 4) [1, 0, 0, 0, 0, 0, 0, 0] 0 0 0 0 rfl hl (do_alu3 x0 x1 x2 x3 x4 x5 x6 x7 x8 x9 x10 x11 x12 x13 x14 x15 pc A B C xB xC m' V w o m y0 y1 y2 y3 y4 y5 y6 y7 y8 y9 y10 y11 y12 y13 y14 y15 xs hl (by omega) hld hA hB hC gB gC hm hy hw hd2 ho lB lC hV) rfl rfl⟩
set_option maxRecDepth 100000 in
theorem both_alui (x0 x1 x2 x3 x4 x5 x6 x7 x8 x9 x10 x11 x12 x13 x14 x15 pc w A B C m' : Nat) (o m : Int) (xs : List Nat) (hrl : ∀ y ∈ [x0, x1, x2, x3, x4, x5, x6, x7, x8, x9, x10, x11, x12, x13, x14, x15], y < 4294967296) (hl : xs.length = 128) (hxs : ∀ y ∈ xs, y < 4294967296) (hpc : pc < 512) (hld : ld4 128 pc = true) (hw : xs.getD (pc / 4) 0 = w)
    (hd1 : Fn Try.prog 47 [.s (.int .u32 w)] [] (· = ⟨.tup [.agg (iv o A B C m), .s (.bool true)], [], []⟩)) (hd2 : Fn Try.prog 71 [.s (.int .u32 w)] [] (· = ⟨.tup [.agg (iv o A B C m), .s (.bool true)], [], []⟩))
    (hA : A < 16) (hB : B < 16) (hC : C < 16) (hm : IntKind.u32.wrap m = (m' : Int)) (hm' : m' < 4294967296) (ho : 16 ≤ o ∧ o ≤ 23) : Both [x0, x1, x2, x3, x4, x5, x6, x7, x8, x9, x10, x11, x12, x13, x14, x15] pc xs := by
  have lA := xs_lt hrl A
  have lB := xs_lt hrl B
  have lC := xs_lt hrl C
  obtain ⟨xA, gA⟩ : ∃ z, [x0, x1, x2, x3, x4, x5, x6, x7, x8, x9, x10, x11, x12, x13, x14, x15].getD A 0 = z := ⟨_, rfl⟩
  obtain ⟨xB, gB⟩ : ∃ z, [x0, x1, x2, x3, x4, x5, x6, x7, x8, x9, x10, x11, x12, x13, x14, x15].getD B 0 = z := ⟨_, rfl⟩
  obtain ⟨xC, gC⟩ : ∃ z, [x0, x1, x2, x3, x4, x5, x6, x7, x8, x9, x10, x11, x12, x13, x14, x15].getD C 0 = z := ⟨_, rfl⟩
  rw [gA] at lA
  rw [gB] at lB
  rw [gC] at lC
  obtain ⟨V, hV⟩ : ∃ V, aluN o xB m' = V := ⟨_, rfl⟩
  obtain ⟨y0, y1, y2, y3, y4, y5, y6, y7, y8, y9, y10, y11, y12, y13, y14, y15, hy⟩ := len16 (show (setR [x0, x1, x2, x3, x4, x5, x6, x7, x8, x9, x10, x11, x12, x13, x14, x15] A V).length = 16 by rw [setR_len]; rfl)
  exact ⟨[y0, y1, y2, y3, y4, y5, y6, y7, y8, y9, y10, y11, y12, y13, y14, y15], pc + 4, [1, 0, 0, 0, 0, 0, 0, 0], xs, 0, 0, 0, 0, rfl, rfl, hl, exec_exe [x0, x1, x2, x3, x4, x5, x6, x7, x8, x9, x10, x11, x12, x13, x14, x15] pc [1, 0, 0, 0, 0, 0, 0, 0] xs 128 w o A B C m [y0, y1, y2, y3, y4, y5, y6, y7, y8, y9, y10, y11, y12, y13, y14, y15] (pc + 4) [1, 0, 0, 0, 0, 0, 0, 0] 0 0 0 0 rfl rfl rfl hl (by omega) (by omega) hld hw hd1 (decide_eq_false (by omega)) (by omega) (ex_alui x0 x1 x2 x3 x4 x5 x6 x7 x8 x9 x10 x11 x12 x13 x14 x15 pc A B C xA xB xC m' V o m y0 y1 y2 y3 y4 y5 y6 y7 y8 y9 y10 y11 y12 y13 y14 y15 hpc hA hB hC gA gB gC hm hy ho lB hm' hV) rfl rfl, rexec [x0, x1, x2, x3, x4, x5, x6, x7, x8, x9, x10, x11, x12, x13, x14, x15] pc xs [y0, y1, y2, y3, y4, y5, y6, y7, y8, y9, y10, y11, y12, y13, y14, y15] (pc + 4) [1, 0, 0, 0, 0, 0, 0, 0] 0 0 0 0 rfl hl (do_alui x0 x1 x2 x3 x4 x5 x6 x7 x8 x9 x10 x11 x12 x13 x14 x15 pc A B C xB xC m' V w o m y0 y1 y2 y3 y4 y5 y6 y7 y8 y9 y10 y11 y12 y13 y14 y15 xs hl (by omega) hld hA hB hC gB gC hm hy hw hd2 ho lB hm' hV) rfl rfl⟩
set_option maxRecDepth 100000 in
theorem both_lui (x0 x1 x2 x3 x4 x5 x6 x7 x8 x9 x10 x11 x12 x13 x14 x15 pc w A B C m' : Nat) (o m : Int) (xs : List Nat) (hrl : ∀ y ∈ [x0, x1, x2, x3, x4, x5, x6, x7, x8, x9, x10, x11, x12, x13, x14, x15], y < 4294967296) (hl : xs.length = 128) (hxs : ∀ y ∈ xs, y < 4294967296) (hpc : pc < 512) (hld : ld4 128 pc = true) (hw : xs.getD (pc / 4) 0 = w)
    (hd1 : Fn Try.prog 47 [.s (.int .u32 w)] [] (· = ⟨.tup [.agg (iv o A B C m), .s (.bool true)], [], []⟩)) (hd2 : Fn Try.prog 71 [.s (.int .u32 w)] [] (· = ⟨.tup [.agg (iv o A B C m), .s (.bool true)], [], []⟩))
    (hA : A < 16) (hB : B < 16) (hC : C < 16) (hm : IntKind.u32.wrap m = (m' : Int)) (hm' : m' < 4294967296) (ho : o = 24) : Both [x0, x1, x2, x3, x4, x5, x6, x7, x8, x9, x10, x11, x12, x13, x14, x15] pc xs := by
  have lA := xs_lt hrl A
  have lB := xs_lt hrl B
  have lC := xs_lt hrl C
  obtain ⟨xA, gA⟩ : ∃ z, [x0, x1, x2, x3, x4, x5, x6, x7, x8, x9, x10, x11, x12, x13, x14, x15].getD A 0 = z := ⟨_, rfl⟩
  obtain ⟨xB, gB⟩ : ∃ z, [x0, x1, x2, x3, x4, x5, x6, x7, x8, x9, x10, x11, x12, x13, x14, x15].getD B 0 = z := ⟨_, rfl⟩
  obtain ⟨xC, gC⟩ : ∃ z, [x0, x1, x2, x3, x4, x5, x6, x7, x8, x9, x10, x11, x12, x13, x14, x15].getD C 0 = z := ⟨_, rfl⟩
  rw [gA] at lA
  rw [gB] at lB
  rw [gC] at lC
  obtain ⟨V, hV⟩ : ∃ V : Nat, IntKind.u32.wrap ((m' : Int) * 2 ^ min (Int.toNat 16) IntKind.u32.bits) = (V : Int) := ⟨(IntKind.u32.wrap ((m' : Int) * 2 ^ min (Int.toNat 16) IntKind.u32.bits)).toNat, by rw [wu32']; omega⟩
  obtain ⟨y0, y1, y2, y3, y4, y5, y6, y7, y8, y9, y10, y11, y12, y13, y14, y15, hy⟩ := len16 (show (setR [x0, x1, x2, x3, x4, x5, x6, x7, x8, x9, x10, x11, x12, x13, x14, x15] A V).length = 16 by rw [setR_len]; rfl)
  exact ⟨[y0, y1, y2, y3, y4, y5, y6, y7, y8, y9, y10, y11, y12, y13, y14, y15], pc + 4, [1, 0, 0, 0, 0, 0, 0, 0], xs, 0, 0, 0, 0, rfl, rfl, hl, exec_exe [x0, x1, x2, x3, x4, x5, x6, x7, x8, x9, x10, x11, x12, x13, x14, x15] pc [1, 0, 0, 0, 0, 0, 0, 0] xs 128 w o A B C m [y0, y1, y2, y3, y4, y5, y6, y7, y8, y9, y10, y11, y12, y13, y14, y15] (pc + 4) [1, 0, 0, 0, 0, 0, 0, 0] 0 0 0 0 rfl rfl rfl hl (by omega) (by omega) hld hw hd1 (decide_eq_false (by omega)) (by omega) (ex_lui x0 x1 x2 x3 x4 x5 x6 x7 x8 x9 x10 x11 x12 x13 x14 x15 pc A B C xA xB xC m' V o m y0 y1 y2 y3 y4 y5 y6 y7 y8 y9 y10 y11 y12 y13 y14 y15 hpc hA hB hC gA gB gC hm hy ho hV) rfl rfl, rexec [x0, x1, x2, x3, x4, x5, x6, x7, x8, x9, x10, x11, x12, x13, x14, x15] pc xs [y0, y1, y2, y3, y4, y5, y6, y7, y8, y9, y10, y11, y12, y13, y14, y15] (pc + 4) [1, 0, 0, 0, 0, 0, 0, 0] 0 0 0 0 rfl hl (do_lui x0 x1 x2 x3 x4 x5 x6 x7 x8 x9 x10 x11 x12 x13 x14 x15 pc A B C xB xC m' V w o m y0 y1 y2 y3 y4 y5 y6 y7 y8 y9 y10 y11 y12 y13 y14 y15 xs hl (by omega) hld hA hB hC gB gC hm hy hw hd2 ho hV) rfl rfl⟩
set_option maxRecDepth 100000 in
theorem both_br (x0 x1 x2 x3 x4 x5 x6 x7 x8 x9 x10 x11 x12 x13 x14 x15 pc w A B C m' : Nat) (o m : Int) (xs : List Nat) (hrl : ∀ y ∈ [x0, x1, x2, x3, x4, x5, x6, x7, x8, x9, x10, x11, x12, x13, x14, x15], y < 4294967296) (hl : xs.length = 128) (hxs : ∀ y ∈ xs, y < 4294967296) (hpc : pc < 512) (hld : ld4 128 pc = true) (hw : xs.getD (pc / 4) 0 = w)
    (hd1 : Fn Try.prog 47 [.s (.int .u32 w)] [] (· = ⟨.tup [.agg (iv o A B C m), .s (.bool true)], [], []⟩)) (hd2 : Fn Try.prog 71 [.s (.int .u32 w)] [] (· = ⟨.tup [.agg (iv o A B C m), .s (.bool true)], [], []⟩))
    (hA : A < 16) (hB : B < 16) (hC : C < 16) (hm : IntKind.u32.wrap m = (m' : Int)) (hm' : m' < 4294967296) (ho : 40 ≤ o ∧ o ≤ 45) : Both [x0, x1, x2, x3, x4, x5, x6, x7, x8, x9, x10, x11, x12, x13, x14, x15] pc xs := by
  have lA := xs_lt hrl A
  have lB := xs_lt hrl B
  have lC := xs_lt hrl C
  obtain ⟨xA, gA⟩ : ∃ z, [x0, x1, x2, x3, x4, x5, x6, x7, x8, x9, x10, x11, x12, x13, x14, x15].getD A 0 = z := ⟨_, rfl⟩
  obtain ⟨xB, gB⟩ : ∃ z, [x0, x1, x2, x3, x4, x5, x6, x7, x8, x9, x10, x11, x12, x13, x14, x15].getD B 0 = z := ⟨_, rfl⟩
  obtain ⟨xC, gC⟩ : ∃ z, [x0, x1, x2, x3, x4, x5, x6, x7, x8, x9, x10, x11, x12, x13, x14, x15].getD C 0 = z := ⟨_, rfl⟩
  rw [gA] at lA
  rw [gB] at lB
  rw [gC] at lC
  obtain ⟨Q, hQ⟩ : ∃ Q : Int, IntKind.u32.wrap (4 * (m' : Int)) = Q := ⟨_, rfl⟩
  obtain ⟨T, hT⟩ : ∃ T : Nat, IntKind.u32.wrap ((pc : Int) + Q) = (T : Int) := ⟨(IntKind.u32.wrap ((pc : Int) + Q)).toNat, by rw [wu32']; omega⟩
  obtain ⟨tk, htk⟩ : ∃ t, takV o xA xB = t := ⟨_, rfl⟩
  exact ⟨[x0, x1, x2, x3, x4, x5, x6, x7, x8, x9, x10, x11, x12, x13, x14, x15], (if tk then T else pc + 4), [1, 0, 0, 0, 0, 0, 0, 0], xs, 0, 0, 0, 0, rfl, rfl, hl, exec_exe [x0, x1, x2, x3, x4, x5, x6, x7, x8, x9, x10, x11, x12, x13, x14, x15] pc [1, 0, 0, 0, 0, 0, 0, 0] xs 128 w o A B C m [x0, x1, x2, x3, x4, x5, x6, x7, x8, x9, x10, x11, x12, x13, x14, x15] _ [1, 0, 0, 0, 0, 0, 0, 0] 0 0 0 0 rfl rfl rfl hl (by omega) (by omega) hld hw hd1 (decide_eq_false (by omega)) (by omega) (ex_br x0 x1 x2 x3 x4 x5 x6 x7 x8 x9 x10 x11 x12 x13 x14 x15 pc A B C xA xB xC m' 0 o m hpc hA hB hC gA gB gC hm T Q tk ho lA lB htk hQ hT) rfl rfl, rexec [x0, x1, x2, x3, x4, x5, x6, x7, x8, x9, x10, x11, x12, x13, x14, x15] pc xs [x0, x1, x2, x3, x4, x5, x6, x7, x8, x9, x10, x11, x12, x13, x14, x15] _ [1, 0, 0, 0, 0, 0, 0, 0] 0 0 0 0 rfl hl (do_jump [x0, x1, x2, x3, x4, x5, x6, x7, x8, x9, x10, x11, x12, x13, x14, x15] pc xs w o A B C m [x0, x1, x2, x3, x4, x5, x6, x7, x8, x9, x10, x11, x12, x13, x14, x15] _ [1, 0, 0, 0, 0, 0, 0, 0] rfl hl (by omega) hld hw hd2 (by omega) (rj_br x0 x1 x2 x3 x4 x5 x6 x7 x8 x9 x10 x11 x12 x13 x14 x15 pc A B C xA xB xC m' 0 o m hpc hA hB hC gA gB gC hm T Q tk ho lA lB htk hQ hT) rfl rfl) rfl rfl⟩
set_option maxRecDepth 100000 in
theorem both_jal (x0 x1 x2 x3 x4 x5 x6 x7 x8 x9 x10 x11 x12 x13 x14 x15 pc w A B C m' : Nat) (o m : Int) (xs : List Nat) (hrl : ∀ y ∈ [x0, x1, x2, x3, x4, x5, x6, x7, x8, x9, x10, x11, x12, x13, x14, x15], y < 4294967296) (hl : xs.length = 128) (hxs : ∀ y ∈ xs, y < 4294967296) (hpc : pc < 512) (hld : ld4 128 pc = true) (hw : xs.getD (pc / 4) 0 = w)
    (hd1 : Fn Try.prog 47 [.s (.int .u32 w)] [] (· = ⟨.tup [.agg (iv o A B C m), .s (.bool true)], [], []⟩)) (hd2 : Fn Try.prog 71 [.s (.int .u32 w)] [] (· = ⟨.tup [.agg (iv o A B C m), .s (.bool true)], [], []⟩))
    (hA : A < 16) (hB : B < 16) (hC : C < 16) (hm : IntKind.u32.wrap m = (m' : Int)) (hm' : m' < 4294967296) (ho : o = 48) : Both [x0, x1, x2, x3, x4, x5, x6, x7, x8, x9, x10, x11, x12, x13, x14, x15] pc xs := by
  have lA := xs_lt hrl A
  have lB := xs_lt hrl B
  have lC := xs_lt hrl C
  obtain ⟨xA, gA⟩ : ∃ z, [x0, x1, x2, x3, x4, x5, x6, x7, x8, x9, x10, x11, x12, x13, x14, x15].getD A 0 = z := ⟨_, rfl⟩
  obtain ⟨xB, gB⟩ : ∃ z, [x0, x1, x2, x3, x4, x5, x6, x7, x8, x9, x10, x11, x12, x13, x14, x15].getD B 0 = z := ⟨_, rfl⟩
  obtain ⟨xC, gC⟩ : ∃ z, [x0, x1, x2, x3, x4, x5, x6, x7, x8, x9, x10, x11, x12, x13, x14, x15].getD C 0 = z := ⟨_, rfl⟩
  rw [gA] at lA
  rw [gB] at lB
  rw [gC] at lC
  obtain ⟨Q, hQ⟩ : ∃ Q : Int, IntKind.u32.wrap (4 * (m' : Int)) = Q := ⟨_, rfl⟩
  obtain ⟨T, hT⟩ : ∃ T : Nat, IntKind.u32.wrap ((pc : Int) + Q) = (T : Int) := ⟨(IntKind.u32.wrap ((pc : Int) + Q)).toNat, by rw [wu32']; omega⟩
  obtain ⟨V, hV⟩ : ∃ V, pc + 4 = V := ⟨_, rfl⟩
  obtain ⟨y0, y1, y2, y3, y4, y5, y6, y7, y8, y9, y10, y11, y12, y13, y14, y15, hy⟩ := len16 (show (setR [x0, x1, x2, x3, x4, x5, x6, x7, x8, x9, x10, x11, x12, x13, x14, x15] A V).length = 16 by rw [setR_len]; rfl)
  exact ⟨[y0, y1, y2, y3, y4, y5, y6, y7, y8, y9, y10, y11, y12, y13, y14, y15], T, [1, 0, 0, 0, 0, 0, 0, 0], xs, 0, 0, 0, 0, rfl, rfl, hl, exec_exe [x0, x1, x2, x3, x4, x5, x6, x7, x8, x9, x10, x11, x12, x13, x14, x15] pc [1, 0, 0, 0, 0, 0, 0, 0] xs 128 w o A B C m [y0, y1, y2, y3, y4, y5, y6, y7, y8, y9, y10, y11, y12, y13, y14, y15] T [1, 0, 0, 0, 0, 0, 0, 0] 0 0 0 0 rfl rfl rfl hl (by omega) (by omega) hld hw hd1 (decide_eq_false (by omega)) (by omega) (ex_jal x0 x1 x2 x3 x4 x5 x6 x7 x8 x9 x10 x11 x12 x13 x14 x15 pc A B C xA xB xC m' V o m y0 y1 y2 y3 y4 y5 y6 y7 y8 y9 y10 y11 y12 y13 y14 y15 hpc hA hB hC gA gB gC hm hy T Q ho hV hQ hT) rfl rfl, rexec [x0, x1, x2, x3, x4, x5, x6, x7, x8, x9, x10, x11, x12, x13, x14, x15] pc xs [y0, y1, y2, y3, y4, y5, y6, y7, y8, y9, y10, y11, y12, y13, y14, y15] T [1, 0, 0, 0, 0, 0, 0, 0] 0 0 0 0 rfl hl (do_jump [x0, x1, x2, x3, x4, x5, x6, x7, x8, x9, x10, x11, x12, x13, x14, x15] pc xs w o A B C m [y0, y1, y2, y3, y4, y5, y6, y7, y8, y9, y10, y11, y12, y13, y14, y15] T [1, 0, 0, 0, 0, 0, 0, 0] rfl hl (by omega) hld hw hd2 (by omega) (rj_jal x0 x1 x2 x3 x4 x5 x6 x7 x8 x9 x10 x11 x12 x13 x14 x15 pc A B C xA xB xC m' V o m y0 y1 y2 y3 y4 y5 y6 y7 y8 y9 y10 y11 y12 y13 y14 y15 hpc hA hB hC gA gB gC hm hy T Q ho hV hQ hT) rfl rfl) rfl rfl⟩
set_option maxRecDepth 100000 in
theorem both_jalr (x0 x1 x2 x3 x4 x5 x6 x7 x8 x9 x10 x11 x12 x13 x14 x15 pc w A B C m' : Nat) (o m : Int) (xs : List Nat) (hrl : ∀ y ∈ [x0, x1, x2, x3, x4, x5, x6, x7, x8, x9, x10, x11, x12, x13, x14, x15], y < 4294967296) (hl : xs.length = 128) (hxs : ∀ y ∈ xs, y < 4294967296) (hpc : pc < 512) (hld : ld4 128 pc = true) (hw : xs.getD (pc / 4) 0 = w)
    (hd1 : Fn Try.prog 47 [.s (.int .u32 w)] [] (· = ⟨.tup [.agg (iv o A B C m), .s (.bool true)], [], []⟩)) (hd2 : Fn Try.prog 71 [.s (.int .u32 w)] [] (· = ⟨.tup [.agg (iv o A B C m), .s (.bool true)], [], []⟩))
    (hA : A < 16) (hB : B < 16) (hC : C < 16) (hm : IntKind.u32.wrap m = (m' : Int)) (hm' : m' < 4294967296) (ho : o = 49) : Both [x0, x1, x2, x3, x4, x5, x6, x7, x8, x9, x10, x11, x12, x13, x14, x15] pc xs := by
  have lA := xs_lt hrl A
  have lB := xs_lt hrl B
  have lC := xs_lt hrl C
  obtain ⟨xA, gA⟩ : ∃ z, [x0, x1, x2, x3, x4, x5, x6, x7, x8, x9, x10, x11, x12, x13, x14, x15].getD A 0 = z := ⟨_, rfl⟩
  obtain ⟨xB, gB⟩ : ∃ z, [x0, x1, x2, x3, x4, x5, x6, x7, x8, x9, x10, x11, x12, x13, x14, x15].getD B 0 = z := ⟨_, rfl⟩
  obtain ⟨xC, gC⟩ : ∃ z, [x0, x1, x2, x3, x4, x5, x6, x7, x8, x9, x10, x11, x12, x13, x14, x15].getD C 0 = z := ⟨_, rfl⟩
  rw [gA] at lA
  rw [gB] at lB
  rw [gC] at lC
  obtain ⟨T, hT⟩ : ∃ T : Nat, IntKind.u32.wrap ((xB : Int) + (m' : Int)) = (T : Int) := ⟨(IntKind.u32.wrap ((xB : Int) + (m' : Int))).toNat, by rw [wu32']; omega⟩
  obtain ⟨V, hV⟩ : ∃ V, pc + 4 = V := ⟨_, rfl⟩
  obtain ⟨y0, y1, y2, y3, y4, y5, y6, y7, y8, y9, y10, y11, y12, y13, y14, y15, hy⟩ := len16 (show (setR [x0, x1, x2, x3, x4, x5, x6, x7, x8, x9, x10, x11, x12, x13, x14, x15] A V).length = 16 by rw [setR_len]; rfl)
  exact ⟨[y0, y1, y2, y3, y4, y5, y6, y7, y8, y9, y10, y11, y12, y13, y14, y15], T, [1, 0, 0, 0, 0, 0, 0, 0], xs, 0, 0, 0, 0, rfl, rfl, hl, exec_exe [x0, x1, x2, x3, x4, x5, x6, x7, x8, x9, x10, x11, x12, x13, x14, x15] pc [1, 0, 0, 0, 0, 0, 0, 0] xs 128 w o A B C m [y0, y1, y2, y3, y4, y5, y6, y7, y8, y9, y10, y11, y12, y13, y14, y15] T [1, 0, 0, 0, 0, 0, 0, 0] 0 0 0 0 rfl rfl rfl hl (by omega) (by omega) hld hw hd1 (decide_eq_false (by omega)) (by omega) (ex_jalr x0 x1 x2 x3 x4 x5 x6 x7 x8 x9 x10 x11 x12 x13 x14 x15 pc A B C xA xB xC m' V o m y0 y1 y2 y3 y4 y5 y6 y7 y8 y9 y10 y11 y12 y13 y14 y15 hpc hA hB hC gA gB gC hm hy T ho hV hT) rfl rfl, rexec [x0, x1, x2, x3, x4, x5, x6, x7, x8, x9, x10, x11, x12, x13, x14, x15] pc xs [y0, y1, y2, y3, y4, y5, y6, y7, y8, y9, y10, y11, y12, y13, y14, y15] T [1, 0, 0, 0, 0, 0, 0, 0] 0 0 0 0 rfl hl (do_jump [x0, x1, x2, x3, x4, x5, x6, x7, x8, x9, x10, x11, x12, x13, x14, x15] pc xs w o A B C m [y0, y1, y2, y3, y4, y5, y6, y7, y8, y9, y10, y11, y12, y13, y14, y15] T [1, 0, 0, 0, 0, 0, 0, 0] rfl hl (by omega) hld hw hd2 (by omega) (rj_jalr x0 x1 x2 x3 x4 x5 x6 x7 x8 x9 x10 x11 x12 x13 x14 x15 pc A B C xA xB xC m' V o m y0 y1 y2 y3 y4 y5 y6 y7 y8 y9 y10 y11 y12 y13 y14 y15 hpc hA hB hC gA gB gC hm hy T ho hV hT) rfl rfl) rfl rfl⟩
set_option maxRecDepth 100000 in
theorem both_ecall (x0 x1 x2 x3 x4 x5 x6 x7 x8 x9 x10 x11 x12 x13 x14 x15 pc w A B C m' : Nat) (o m : Int) (xs : List Nat) (hrl : ∀ y ∈ [x0, x1, x2, x3, x4, x5, x6, x7, x8, x9, x10, x11, x12, x13, x14, x15], y < 4294967296) (hl : xs.length = 128) (hxs : ∀ y ∈ xs, y < 4294967296) (hpc : pc < 512) (hld : ld4 128 pc = true) (hw : xs.getD (pc / 4) 0 = w)
    (hd1 : Fn Try.prog 47 [.s (.int .u32 w)] [] (· = ⟨.tup [.agg (iv o A B C m), .s (.bool true)], [], []⟩)) (hd2 : Fn Try.prog 71 [.s (.int .u32 w)] [] (· = ⟨.tup [.agg (iv o A B C m), .s (.bool true)], [], []⟩))
    (hA : A < 16) (hB : B < 16) (hC : C < 16) (hm : IntKind.u32.wrap m = (m' : Int)) (hm' : m' < 4294967296) (ho : o = 56) : Both [x0, x1, x2, x3, x4, x5, x6, x7, x8, x9, x10, x11, x12, x13, x14, x15] pc xs := by
  have lA := xs_lt hrl A
  have lB := xs_lt hrl B
  have lC := xs_lt hrl C
  obtain ⟨xA, gA⟩ : ∃ z, [x0, x1, x2, x3, x4, x5, x6, x7, x8, x9, x10, x11, x12, x13, x14, x15].getD A 0 = z := ⟨_, rfl⟩
  obtain ⟨xB, gB⟩ : ∃ z, [x0, x1, x2, x3, x4, x5, x6, x7, x8, x9, x10, x11, x12, x13, x14, x15].getD B 0 = z := ⟨_, rfl⟩
  obtain ⟨xC, gC⟩ : ∃ z, [x0, x1, x2, x3, x4, x5, x6, x7, x8, x9, x10, x11, x12, x13, x14, x15].getD C 0 = z := ⟨_, rfl⟩
  rw [gA] at lA
  rw [gB] at lB
  rw [gC] at lC
  exact ⟨[x0, x1, x2, x3, x4, x5, x6, x7, x8, x9, x10, x11, x12, x13, x14, x15], 0, [trapS 1, 0, pc, 7, 0, 0, 0, 0], xs, 0, 0, 0, 0, rfl, rfl, hl, exec_exe [x0, x1, x2, x3, x4, x5, x6, x7, x8, x9, x10, x11, x12, x13, x14, x15] pc [1, 0, 0, 0, 0, 0, 0, 0] xs 128 w o A B C m [x0, x1, x2, x3, x4, x5, x6, x7, x8, x9, x10, x11, x12, x13, x14, x15] 0 [trapS 1, 0, pc, 7, 0, 0, 0, 0] 0 0 0 0 rfl rfl rfl hl (by omega) (by omega) hld hw hd1 (decide_eq_false (by omega)) (by omega) (ex_ecall x0 x1 x2 x3 x4 x5 x6 x7 x8 x9 x10 x11 x12 x13 x14 x15 pc A B C xA xB xC m' 0 o m hpc hA hB hC gA gB gC hm ho) rfl rfl, rexec [x0, x1, x2, x3, x4, x5, x6, x7, x8, x9, x10, x11, x12, x13, x14, x15] pc xs [x0, x1, x2, x3, x4, x5, x6, x7, x8, x9, x10, x11, x12, x13, x14, x15] 0 [trapS 1, 0, pc, 7, 0, 0, 0, 0] 0 0 0 0 rfl hl (do_sys [x0, x1, x2, x3, x4, x5, x6, x7, x8, x9, x10, x11, x12, x13, x14, x15] pc xs w o A B C m [x0, x1, x2, x3, x4, x5, x6, x7, x8, x9, x10, x11, x12, x13, x14, x15] 0 [trapS 1, 0, pc, 7, 0, 0, 0, 0] 0 0 0 0 rfl hl (by omega) hld hw hd2 (by omega) (rs_ecall x0 x1 x2 x3 x4 x5 x6 x7 x8 x9 x10 x11 x12 x13 x14 x15 pc A B C xA xB xC m' 0 o m hpc hA hB hC gA gB gC hm ho) rfl rfl) rfl rfl⟩
set_option maxRecDepth 100000 in
theorem both_eret (x0 x1 x2 x3 x4 x5 x6 x7 x8 x9 x10 x11 x12 x13 x14 x15 pc w A B C m' : Nat) (o m : Int) (xs : List Nat) (hrl : ∀ y ∈ [x0, x1, x2, x3, x4, x5, x6, x7, x8, x9, x10, x11, x12, x13, x14, x15], y < 4294967296) (hl : xs.length = 128) (hxs : ∀ y ∈ xs, y < 4294967296) (hpc : pc < 512) (hld : ld4 128 pc = true) (hw : xs.getD (pc / 4) 0 = w)
    (hd1 : Fn Try.prog 47 [.s (.int .u32 w)] [] (· = ⟨.tup [.agg (iv o A B C m), .s (.bool true)], [], []⟩)) (hd2 : Fn Try.prog 71 [.s (.int .u32 w)] [] (· = ⟨.tup [.agg (iv o A B C m), .s (.bool true)], [], []⟩))
    (hA : A < 16) (hB : B < 16) (hC : C < 16) (hm : IntKind.u32.wrap m = (m' : Int)) (hm' : m' < 4294967296) (ho : o = 57) : Both [x0, x1, x2, x3, x4, x5, x6, x7, x8, x9, x10, x11, x12, x13, x14, x15] pc xs := by
  have lA := xs_lt hrl A
  have lB := xs_lt hrl B
  have lC := xs_lt hrl C
  obtain ⟨xA, gA⟩ : ∃ z, [x0, x1, x2, x3, x4, x5, x6, x7, x8, x9, x10, x11, x12, x13, x14, x15].getD A 0 = z := ⟨_, rfl⟩
  obtain ⟨xB, gB⟩ : ∃ z, [x0, x1, x2, x3, x4, x5, x6, x7, x8, x9, x10, x11, x12, x13, x14, x15].getD B 0 = z := ⟨_, rfl⟩
  obtain ⟨xC, gC⟩ : ∃ z, [x0, x1, x2, x3, x4, x5, x6, x7, x8, x9, x10, x11, x12, x13, x14, x15].getD C 0 = z := ⟨_, rfl⟩
  rw [gA] at lA
  rw [gB] at lB
  rw [gC] at lC
  exact ⟨[x0, x1, x2, x3, x4, x5, x6, x7, x8, x9, x10, x11, x12, x13, x14, x15], 0, [retS 1, 0, 0, 0, 0, 0, 0, 0], xs, 0, 0, 0, 0, rfl, rfl, hl, exec_pe [x0, x1, x2, x3, x4, x5, x6, x7, x8, x9, x10, x11, x12, x13, x14, x15] pc xs w o A B C m [x0, x1, x2, x3, x4, x5, x6, x7, x8, x9, x10, x11, x12, x13, x14, x15] 0 [retS 1, 0, 0, 0, 0, 0, 0, 0] 0 0 0 0 rfl hl (by omega) hld hw hd1 (by omega) (ex_eret x0 x1 x2 x3 x4 x5 x6 x7 x8 x9 x10 x11 x12 x13 x14 x15 pc A B C xA xB xC m' 0 o m hpc hA hB hC gA gB gC hm ho) rfl rfl, rexec [x0, x1, x2, x3, x4, x5, x6, x7, x8, x9, x10, x11, x12, x13, x14, x15] pc xs [x0, x1, x2, x3, x4, x5, x6, x7, x8, x9, x10, x11, x12, x13, x14, x15] 0 [retS 1, 0, 0, 0, 0, 0, 0, 0] 0 0 0 0 rfl hl (do_sys [x0, x1, x2, x3, x4, x5, x6, x7, x8, x9, x10, x11, x12, x13, x14, x15] pc xs w o A B C m [x0, x1, x2, x3, x4, x5, x6, x7, x8, x9, x10, x11, x12, x13, x14, x15] 0 [retS 1, 0, 0, 0, 0, 0, 0, 0] 0 0 0 0 rfl hl (by omega) hld hw hd2 (by omega) (rs_eret x0 x1 x2 x3 x4 x5 x6 x7 x8 x9 x10 x11 x12 x13 x14 x15 pc A B C xA xB xC m' 0 o m hpc hA hB hC gA gB gC hm ho) rfl rfl) rfl rfl⟩
set_option maxRecDepth 100000 in
theorem both_csrr (x0 x1 x2 x3 x4 x5 x6 x7 x8 x9 x10 x11 x12 x13 x14 x15 pc w A B C m' : Nat) (o m : Int) (xs : List Nat) (hrl : ∀ y ∈ [x0, x1, x2, x3, x4, x5, x6, x7, x8, x9, x10, x11, x12, x13, x14, x15], y < 4294967296) (hl : xs.length = 128) (hxs : ∀ y ∈ xs, y < 4294967296) (hpc : pc < 512) (hld : ld4 128 pc = true) (hw : xs.getD (pc / 4) 0 = w)
    (hd1 : Fn Try.prog 47 [.s (.int .u32 w)] [] (· = ⟨.tup [.agg (iv o A B C m), .s (.bool true)], [], []⟩)) (hd2 : Fn Try.prog 71 [.s (.int .u32 w)] [] (· = ⟨.tup [.agg (iv o A B C m), .s (.bool true)], [], []⟩))
    (hA : A < 16) (hB : B < 16) (hC : C < 16) (hm : IntKind.u32.wrap m = (m' : Int)) (hm' : m' < 4294967296) (ho : o = 58) (mm : Nat) (hmm : m = (mm : Int)) (hm8 : mm < 8) : Both [x0, x1, x2, x3, x4, x5, x6, x7, x8, x9, x10, x11, x12, x13, x14, x15] pc xs := by
  have lA := xs_lt hrl A
  have lB := xs_lt hrl B
  have lC := xs_lt hrl C
  obtain ⟨xA, gA⟩ : ∃ z, [x0, x1, x2, x3, x4, x5, x6, x7, x8, x9, x10, x11, x12, x13, x14, x15].getD A 0 = z := ⟨_, rfl⟩
  obtain ⟨xB, gB⟩ : ∃ z, [x0, x1, x2, x3, x4, x5, x6, x7, x8, x9, x10, x11, x12, x13, x14, x15].getD B 0 = z := ⟨_, rfl⟩
  obtain ⟨xC, gC⟩ : ∃ z, [x0, x1, x2, x3, x4, x5, x6, x7, x8, x9, x10, x11, x12, x13, x14, x15].getD C 0 = z := ⟨_, rfl⟩
  rw [gA] at lA
  rw [gB] at lB
  rw [gC] at lC
  obtain ⟨V, hV⟩ : ∃ V, ([1, 0, 0, 0, 0, 0, 0, 0] : List Nat).getD mm 0 = V := ⟨_, rfl⟩
  obtain ⟨y0, y1, y2, y3, y4, y5, y6, y7, y8, y9, y10, y11, y12, y13, y14, y15, hy⟩ := len16 (show (setR [x0, x1, x2, x3, x4, x5, x6, x7, x8, x9, x10, x11, x12, x13, x14, x15] A V).length = 16 by rw [setR_len]; rfl)
  exact ⟨[y0, y1, y2, y3, y4, y5, y6, y7, y8, y9, y10, y11, y12, y13, y14, y15], pc + 4, [1, 0, 0, 0, 0, 0, 0, 0], xs, 0, 0, 0, 0, rfl, rfl, hl, exec_pe [x0, x1, x2, x3, x4, x5, x6, x7, x8, x9, x10, x11, x12, x13, x14, x15] pc xs w o A B C m [y0, y1, y2, y3, y4, y5, y6, y7, y8, y9, y10, y11, y12, y13, y14, y15] (pc + 4) [1, 0, 0, 0, 0, 0, 0, 0] 0 0 0 0 rfl hl (by omega) hld hw hd1 (by omega) (ex_csrr x0 x1 x2 x3 x4 x5 x6 x7 x8 x9 x10 x11 x12 x13 x14 x15 pc A B C xA xB xC m' V o m y0 y1 y2 y3 y4 y5 y6 y7 y8 y9 y10 y11 y12 y13 y14 y15 hpc hA hB hC gA gB gC hm hy mm ho hmm hm8 hV) rfl rfl, rexec [x0, x1, x2, x3, x4, x5, x6, x7, x8, x9, x10, x11, x12, x13, x14, x15] pc xs [y0, y1, y2, y3, y4, y5, y6, y7, y8, y9, y10, y11, y12, y13, y14, y15] (pc + 4) [1, 0, 0, 0, 0, 0, 0, 0] 0 0 0 0 rfl hl (do_sys [x0, x1, x2, x3, x4, x5, x6, x7, x8, x9, x10, x11, x12, x13, x14, x15] pc xs w o A B C m [y0, y1, y2, y3, y4, y5, y6, y7, y8, y9, y10, y11, y12, y13, y14, y15] (pc + 4) [1, 0, 0, 0, 0, 0, 0, 0] 0 0 0 0 rfl hl (by omega) hld hw hd2 (by omega) (rs_csrr x0 x1 x2 x3 x4 x5 x6 x7 x8 x9 x10 x11 x12 x13 x14 x15 pc A B C xA xB xC m' V o m y0 y1 y2 y3 y4 y5 y6 y7 y8 y9 y10 y11 y12 y13 y14 y15 hpc hA hB hC gA gB gC hm hy mm ho hmm hm8 hV) rfl rfl) rfl rfl⟩
set_option maxRecDepth 100000 in
theorem both_csrw (x0 x1 x2 x3 x4 x5 x6 x7 x8 x9 x10 x11 x12 x13 x14 x15 pc w A B C m' : Nat) (o m : Int) (xs : List Nat) (hrl : ∀ y ∈ [x0, x1, x2, x3, x4, x5, x6, x7, x8, x9, x10, x11, x12, x13, x14, x15], y < 4294967296) (hl : xs.length = 128) (hxs : ∀ y ∈ xs, y < 4294967296) (hpc : pc < 512) (hld : ld4 128 pc = true) (hw : xs.getD (pc / 4) 0 = w)
    (hd1 : Fn Try.prog 47 [.s (.int .u32 w)] [] (· = ⟨.tup [.agg (iv o A B C m), .s (.bool true)], [], []⟩)) (hd2 : Fn Try.prog 71 [.s (.int .u32 w)] [] (· = ⟨.tup [.agg (iv o A B C m), .s (.bool true)], [], []⟩))
    (hA : A < 16) (hB : B < 16) (hC : C < 16) (hm : IntKind.u32.wrap m = (m' : Int)) (hm' : m' < 4294967296) (ho : o = 59) (hmr : -2147483648 ≤ m ∧ m ≤ 2147483647) : Both [x0, x1, x2, x3, x4, x5, x6, x7, x8, x9, x10, x11, x12, x13, x14, x15] pc xs := by
  have lA := xs_lt hrl A
  have lB := xs_lt hrl B
  have lC := xs_lt hrl C
  obtain ⟨xA, gA⟩ : ∃ z, [x0, x1, x2, x3, x4, x5, x6, x7, x8, x9, x10, x11, x12, x13, x14, x15].getD A 0 = z := ⟨_, rfl⟩
  obtain ⟨xB, gB⟩ : ∃ z, [x0, x1, x2, x3, x4, x5, x6, x7, x8, x9, x10, x11, x12, x13, x14, x15].getD B 0 = z := ⟨_, rfl⟩
  obtain ⟨xC, gC⟩ : ∃ z, [x0, x1, x2, x3, x4, x5, x6, x7, x8, x9, x10, x11, x12, x13, x14, x15].getD C 0 = z := ⟨_, rfl⟩
  rw [gA] at lA
  rw [gB] at lB
  rw [gC] at lC
  have hmi : IntKind.i64.wrap m = m := wi64 (by omega) (by omega)
  obtain ⟨z0, z1, z2, z3, z4, z5, z6, z7, hz⟩ := wr_form [x0, x1, x2, x3, x4, x5, x6, x7, x8, x9, x10, x11, x12, x13, x14, x15] pc m xA
  exact ⟨[x0, x1, x2, x3, x4, x5, x6, x7, x8, x9, x10, x11, x12, x13, x14, x15], pc + 4, [z0, z1, z2, z3, z4, z5, z6, z7], xs, 0, 0, 0, 0, rfl, rfl, hl, exec_pe [x0, x1, x2, x3, x4, x5, x6, x7, x8, x9, x10, x11, x12, x13, x14, x15] pc xs w o A B C m [x0, x1, x2, x3, x4, x5, x6, x7, x8, x9, x10, x11, x12, x13, x14, x15] (pc + 4) [z0, z1, z2, z3, z4, z5, z6, z7] 0 0 0 0 rfl hl (by omega) hld hw hd1 (by omega) (ex_csrw x0 x1 x2 x3 x4 x5 x6 x7 x8 x9 x10 x11 x12 x13 x14 x15 pc A B C xA xB xC m' 0 o m hpc hA hB hC gA gB gC hm z0 z1 z2 z3 z4 z5 z6 z7 ho hmi lA hz) rfl rfl, rexec [x0, x1, x2, x3, x4, x5, x6, x7, x8, x9, x10, x11, x12, x13, x14, x15] pc xs [x0, x1, x2, x3, x4, x5, x6, x7, x8, x9, x10, x11, x12, x13, x14, x15] (pc + 4) [z0, z1, z2, z3, z4, z5, z6, z7] 0 0 0 0 rfl hl (do_sys [x0, x1, x2, x3, x4, x5, x6, x7, x8, x9, x10, x11, x12, x13, x14, x15] pc xs w o A B C m [x0, x1, x2, x3, x4, x5, x6, x7, x8, x9, x10, x11, x12, x13, x14, x15] (pc + 4) [z0, z1, z2, z3, z4, z5, z6, z7] 0 0 0 0 rfl hl (by omega) hld hw hd2 (by omega) (rs_csrw x0 x1 x2 x3 x4 x5 x6 x7 x8 x9 x10 x11 x12 x13 x14 x15 pc A B C xA xB xC m' 0 o m hpc hA hB hC gA gB gC hm z0 z1 z2 z3 z4 z5 z6 z7 ho hmi lA hz) rfl rfl) rfl rfl⟩
set_option maxRecDepth 100000 in
theorem both_in (x0 x1 x2 x3 x4 x5 x6 x7 x8 x9 x10 x11 x12 x13 x14 x15 pc w A B C m' : Nat) (o m : Int) (xs : List Nat) (hrl : ∀ y ∈ [x0, x1, x2, x3, x4, x5, x6, x7, x8, x9, x10, x11, x12, x13, x14, x15], y < 4294967296) (hl : xs.length = 128) (hxs : ∀ y ∈ xs, y < 4294967296) (hpc : pc < 512) (hld : ld4 128 pc = true) (hw : xs.getD (pc / 4) 0 = w)
    (hd1 : Fn Try.prog 47 [.s (.int .u32 w)] [] (· = ⟨.tup [.agg (iv o A B C m), .s (.bool true)], [], []⟩)) (hd2 : Fn Try.prog 71 [.s (.int .u32 w)] [] (· = ⟨.tup [.agg (iv o A B C m), .s (.bool true)], [], []⟩))
    (hA : A < 16) (hB : B < 16) (hC : C < 16) (hm : IntKind.u32.wrap m = (m' : Int)) (hm' : m' < 4294967296) (ho : o = 60) (hmr : -2147483648 ≤ m ∧ m ≤ 2147483647) : Both [x0, x1, x2, x3, x4, x5, x6, x7, x8, x9, x10, x11, x12, x13, x14, x15] pc xs := by
  have lA := xs_lt hrl A
  have lB := xs_lt hrl B
  have lC := xs_lt hrl C
  obtain ⟨xA, gA⟩ : ∃ z, [x0, x1, x2, x3, x4, x5, x6, x7, x8, x9, x10, x11, x12, x13, x14, x15].getD A 0 = z := ⟨_, rfl⟩
  obtain ⟨xB, gB⟩ : ∃ z, [x0, x1, x2, x3, x4, x5, x6, x7, x8, x9, x10, x11, x12, x13, x14, x15].getD B 0 = z := ⟨_, rfl⟩
  obtain ⟨xC, gC⟩ : ∃ z, [x0, x1, x2, x3, x4, x5, x6, x7, x8, x9, x10, x11, x12, x13, x14, x15].getD C 0 = z := ⟨_, rfl⟩
  rw [gA] at lA
  rw [gB] at lB
  rw [gC] at lC
  have hmi : IntKind.i64.wrap m = m := wi64 (by omega) (by omega)
  exact ⟨[x0, x1, x2, x3, x4, x5, x6, x7, x8, x9, x10, x11, x12, x13, x14, x15], pc + 4, [1, 0, 0, 0, 0, 0, 0, 0], xs, 1, m, A, 0, rfl, rfl, hl, exec_pe [x0, x1, x2, x3, x4, x5, x6, x7, x8, x9, x10, x11, x12, x13, x14, x15] pc xs w o A B C m [x0, x1, x2, x3, x4, x5, x6, x7, x8, x9, x10, x11, x12, x13, x14, x15] (pc + 4) [1, 0, 0, 0, 0, 0, 0, 0] 1 m A 0 rfl hl (by omega) hld hw hd1 (by omega) (ex_in x0 x1 x2 x3 x4 x5 x6 x7 x8 x9 x10 x11 x12 x13 x14 x15 pc A B C xA xB xC m' 0 o m hpc hA hB hC gA gB gC hm ho hmi) rfl rfl, rexec [x0, x1, x2, x3, x4, x5, x6, x7, x8, x9, x10, x11, x12, x13, x14, x15] pc xs [x0, x1, x2, x3, x4, x5, x6, x7, x8, x9, x10, x11, x12, x13, x14, x15] (pc + 4) [1, 0, 0, 0, 0, 0, 0, 0] 1 m A 0 rfl hl (do_sys [x0, x1, x2, x3, x4, x5, x6, x7, x8, x9, x10, x11, x12, x13, x14, x15] pc xs w o A B C m [x0, x1, x2, x3, x4, x5, x6, x7, x8, x9, x10, x11, x12, x13, x14, x15] (pc + 4) [1, 0, 0, 0, 0, 0, 0, 0] 1 m A 0 rfl hl (by omega) hld hw hd2 (by omega) (rs_in x0 x1 x2 x3 x4 x5 x6 x7 x8 x9 x10 x11 x12 x13 x14 x15 pc A B C xA xB xC m' 0 o m hpc hA hB hC gA gB gC hm ho hmi) rfl rfl) rfl rfl⟩
set_option maxRecDepth 100000 in
theorem both_out (x0 x1 x2 x3 x4 x5 x6 x7 x8 x9 x10 x11 x12 x13 x14 x15 pc w A B C m' : Nat) (o m : Int) (xs : List Nat) (hrl : ∀ y ∈ [x0, x1, x2, x3, x4, x5, x6, x7, x8, x9, x10, x11, x12, x13, x14, x15], y < 4294967296) (hl : xs.length = 128) (hxs : ∀ y ∈ xs, y < 4294967296) (hpc : pc < 512) (hld : ld4 128 pc = true) (hw : xs.getD (pc / 4) 0 = w)
    (hd1 : Fn Try.prog 47 [.s (.int .u32 w)] [] (· = ⟨.tup [.agg (iv o A B C m), .s (.bool true)], [], []⟩)) (hd2 : Fn Try.prog 71 [.s (.int .u32 w)] [] (· = ⟨.tup [.agg (iv o A B C m), .s (.bool true)], [], []⟩))
    (hA : A < 16) (hB : B < 16) (hC : C < 16) (hm : IntKind.u32.wrap m = (m' : Int)) (hm' : m' < 4294967296) (ho : o = 61) (hmr : -2147483648 ≤ m ∧ m ≤ 2147483647) : Both [x0, x1, x2, x3, x4, x5, x6, x7, x8, x9, x10, x11, x12, x13, x14, x15] pc xs := by
  have lA := xs_lt hrl A
  have lB := xs_lt hrl B
  have lC := xs_lt hrl C
  obtain ⟨xA, gA⟩ : ∃ z, [x0, x1, x2, x3, x4, x5, x6, x7, x8, x9, x10, x11, x12, x13, x14, x15].getD A 0 = z := ⟨_, rfl⟩
  obtain ⟨xB, gB⟩ : ∃ z, [x0, x1, x2, x3, x4, x5, x6, x7, x8, x9, x10, x11, x12, x13, x14, x15].getD B 0 = z := ⟨_, rfl⟩
  obtain ⟨xC, gC⟩ : ∃ z, [x0, x1, x2, x3, x4, x5, x6, x7, x8, x9, x10, x11, x12, x13, x14, x15].getD C 0 = z := ⟨_, rfl⟩
  rw [gA] at lA
  rw [gB] at lB
  rw [gC] at lC
  have hmi : IntKind.i64.wrap m = m := wi64 (by omega) (by omega)
  exact ⟨[x0, x1, x2, x3, x4, x5, x6, x7, x8, x9, x10, x11, x12, x13, x14, x15], pc + 4, [1, 0, 0, 0, 0, 0, 0, 0], xs, 2, m, 0, xA, rfl, rfl, hl, exec_pe [x0, x1, x2, x3, x4, x5, x6, x7, x8, x9, x10, x11, x12, x13, x14, x15] pc xs w o A B C m [x0, x1, x2, x3, x4, x5, x6, x7, x8, x9, x10, x11, x12, x13, x14, x15] (pc + 4) [1, 0, 0, 0, 0, 0, 0, 0] 2 m 0 xA rfl hl (by omega) hld hw hd1 (by omega) (ex_out x0 x1 x2 x3 x4 x5 x6 x7 x8 x9 x10 x11 x12 x13 x14 x15 pc A B C xA xB xC m' 0 o m hpc hA hB hC gA gB gC hm ho hmi) rfl rfl, rexec [x0, x1, x2, x3, x4, x5, x6, x7, x8, x9, x10, x11, x12, x13, x14, x15] pc xs [x0, x1, x2, x3, x4, x5, x6, x7, x8, x9, x10, x11, x12, x13, x14, x15] (pc + 4) [1, 0, 0, 0, 0, 0, 0, 0] 2 m 0 xA rfl hl (do_sys [x0, x1, x2, x3, x4, x5, x6, x7, x8, x9, x10, x11, x12, x13, x14, x15] pc xs w o A B C m [x0, x1, x2, x3, x4, x5, x6, x7, x8, x9, x10, x11, x12, x13, x14, x15] (pc + 4) [1, 0, 0, 0, 0, 0, 0, 0] 2 m 0 xA rfl hl (by omega) hld hw hd2 (by omega) (rs_out x0 x1 x2 x3 x4 x5 x6 x7 x8 x9 x10 x11 x12 x13 x14 x15 pc A B C xA xB xC m' 0 o m hpc hA hB hC gA gB gC hm ho hmi) rfl rfl) rfl rfl⟩
set_option maxRecDepth 100000 in
theorem both_wfi (x0 x1 x2 x3 x4 x5 x6 x7 x8 x9 x10 x11 x12 x13 x14 x15 pc w A B C m' : Nat) (o m : Int) (xs : List Nat) (hrl : ∀ y ∈ [x0, x1, x2, x3, x4, x5, x6, x7, x8, x9, x10, x11, x12, x13, x14, x15], y < 4294967296) (hl : xs.length = 128) (hxs : ∀ y ∈ xs, y < 4294967296) (hpc : pc < 512) (hld : ld4 128 pc = true) (hw : xs.getD (pc / 4) 0 = w)
    (hd1 : Fn Try.prog 47 [.s (.int .u32 w)] [] (· = ⟨.tup [.agg (iv o A B C m), .s (.bool true)], [], []⟩)) (hd2 : Fn Try.prog 71 [.s (.int .u32 w)] [] (· = ⟨.tup [.agg (iv o A B C m), .s (.bool true)], [], []⟩))
    (hA : A < 16) (hB : B < 16) (hC : C < 16) (hm : IntKind.u32.wrap m = (m' : Int)) (hm' : m' < 4294967296) (ho : o = 62) : Both [x0, x1, x2, x3, x4, x5, x6, x7, x8, x9, x10, x11, x12, x13, x14, x15] pc xs := by
  have lA := xs_lt hrl A
  have lB := xs_lt hrl B
  have lC := xs_lt hrl C
  obtain ⟨xA, gA⟩ : ∃ z, [x0, x1, x2, x3, x4, x5, x6, x7, x8, x9, x10, x11, x12, x13, x14, x15].getD A 0 = z := ⟨_, rfl⟩
  obtain ⟨xB, gB⟩ : ∃ z, [x0, x1, x2, x3, x4, x5, x6, x7, x8, x9, x10, x11, x12, x13, x14, x15].getD B 0 = z := ⟨_, rfl⟩
  obtain ⟨xC, gC⟩ : ∃ z, [x0, x1, x2, x3, x4, x5, x6, x7, x8, x9, x10, x11, x12, x13, x14, x15].getD C 0 = z := ⟨_, rfl⟩
  rw [gA] at lA
  rw [gB] at lB
  rw [gC] at lC
  exact ⟨[x0, x1, x2, x3, x4, x5, x6, x7, x8, x9, x10, x11, x12, x13, x14, x15], pc + 4, [1, 0, 0, 0, 0, 0, 0, 0], xs, 3, 0, 0, 0, rfl, rfl, hl, exec_pe [x0, x1, x2, x3, x4, x5, x6, x7, x8, x9, x10, x11, x12, x13, x14, x15] pc xs w o A B C m [x0, x1, x2, x3, x4, x5, x6, x7, x8, x9, x10, x11, x12, x13, x14, x15] (pc + 4) [1, 0, 0, 0, 0, 0, 0, 0] 3 0 0 0 rfl hl (by omega) hld hw hd1 (by omega) (ex_wfi x0 x1 x2 x3 x4 x5 x6 x7 x8 x9 x10 x11 x12 x13 x14 x15 pc A B C xA xB xC m' 0 o m hpc hA hB hC gA gB gC hm ho) rfl rfl, rexec [x0, x1, x2, x3, x4, x5, x6, x7, x8, x9, x10, x11, x12, x13, x14, x15] pc xs [x0, x1, x2, x3, x4, x5, x6, x7, x8, x9, x10, x11, x12, x13, x14, x15] (pc + 4) [1, 0, 0, 0, 0, 0, 0, 0] 3 0 0 0 rfl hl (do_sys [x0, x1, x2, x3, x4, x5, x6, x7, x8, x9, x10, x11, x12, x13, x14, x15] pc xs w o A B C m [x0, x1, x2, x3, x4, x5, x6, x7, x8, x9, x10, x11, x12, x13, x14, x15] (pc + 4) [1, 0, 0, 0, 0, 0, 0, 0] 3 0 0 0 rfl hl (by omega) hld hw hd2 (by omega) (rs_wfi x0 x1 x2 x3 x4 x5 x6 x7 x8 x9 x10 x11 x12 x13 x14 x15 pc A B C xA xB xC m' 0 o m hpc hA hB hC gA gB gC hm ho) rfl rfl) rfl rfl⟩
set_option maxRecDepth 100000 in
theorem both_flush (x0 x1 x2 x3 x4 x5 x6 x7 x8 x9 x10 x11 x12 x13 x14 x15 pc w A B C m' : Nat) (o m : Int) (xs : List Nat) (hrl : ∀ y ∈ [x0, x1, x2, x3, x4, x5, x6, x7, x8, x9, x10, x11, x12, x13, x14, x15], y < 4294967296) (hl : xs.length = 128) (hxs : ∀ y ∈ xs, y < 4294967296) (hpc : pc < 512) (hld : ld4 128 pc = true) (hw : xs.getD (pc / 4) 0 = w)
    (hd1 : Fn Try.prog 47 [.s (.int .u32 w)] [] (· = ⟨.tup [.agg (iv o A B C m), .s (.bool true)], [], []⟩)) (hd2 : Fn Try.prog 71 [.s (.int .u32 w)] [] (· = ⟨.tup [.agg (iv o A B C m), .s (.bool true)], [], []⟩))
    (hA : A < 16) (hB : B < 16) (hC : C < 16) (hm : IntKind.u32.wrap m = (m' : Int)) (hm' : m' < 4294967296) (ho : o = 63) : Both [x0, x1, x2, x3, x4, x5, x6, x7, x8, x9, x10, x11, x12, x13, x14, x15] pc xs := by
  have lA := xs_lt hrl A
  have lB := xs_lt hrl B
  have lC := xs_lt hrl C
  obtain ⟨xA, gA⟩ : ∃ z, [x0, x1, x2, x3, x4, x5, x6, x7, x8, x9, x10, x11, x12, x13, x14, x15].getD A 0 = z := ⟨_, rfl⟩
  obtain ⟨xB, gB⟩ : ∃ z, [x0, x1, x2, x3, x4, x5, x6, x7, x8, x9, x10, x11, x12, x13, x14, x15].getD B 0 = z := ⟨_, rfl⟩
  obtain ⟨xC, gC⟩ : ∃ z, [x0, x1, x2, x3, x4, x5, x6, x7, x8, x9, x10, x11, x12, x13, x14, x15].getD C 0 = z := ⟨_, rfl⟩
  rw [gA] at lA
  rw [gB] at lB
  rw [gC] at lC
  exact ⟨[x0, x1, x2, x3, x4, x5, x6, x7, x8, x9, x10, x11, x12, x13, x14, x15], pc + 4, [1, 0, 0, 0, 0, 0, 0, 0], xs, 5, 0, 0, 0, rfl, rfl, hl, exec_pe [x0, x1, x2, x3, x4, x5, x6, x7, x8, x9, x10, x11, x12, x13, x14, x15] pc xs w o A B C m [x0, x1, x2, x3, x4, x5, x6, x7, x8, x9, x10, x11, x12, x13, x14, x15] (pc + 4) [1, 0, 0, 0, 0, 0, 0, 0] 5 0 0 0 rfl hl (by omega) hld hw hd1 (by omega) (ex_flush x0 x1 x2 x3 x4 x5 x6 x7 x8 x9 x10 x11 x12 x13 x14 x15 pc A B C xA xB xC m' 0 o m hpc hA hB hC gA gB gC hm ho) rfl rfl, rexec [x0, x1, x2, x3, x4, x5, x6, x7, x8, x9, x10, x11, x12, x13, x14, x15] pc xs [x0, x1, x2, x3, x4, x5, x6, x7, x8, x9, x10, x11, x12, x13, x14, x15] (pc + 4) [1, 0, 0, 0, 0, 0, 0, 0] 5 0 0 0 rfl hl (do_sys [x0, x1, x2, x3, x4, x5, x6, x7, x8, x9, x10, x11, x12, x13, x14, x15] pc xs w o A B C m [x0, x1, x2, x3, x4, x5, x6, x7, x8, x9, x10, x11, x12, x13, x14, x15] (pc + 4) [1, 0, 0, 0, 0, 0, 0, 0] 5 0 0 0 rfl hl (by omega) hld hw hd2 (by omega) (rs_flush x0 x1 x2 x3 x4 x5 x6 x7 x8 x9 x10 x11 x12 x13 x14 x15 pc A B C xA xB xC m' 0 o m hpc hA hB hC gA gB gC hm ho) rfl rfl) rfl rfl⟩
set_option maxRecDepth 100000 in
theorem both_halt (x0 x1 x2 x3 x4 x5 x6 x7 x8 x9 x10 x11 x12 x13 x14 x15 pc w A B C m' : Nat) (o m : Int) (xs : List Nat) (hrl : ∀ y ∈ [x0, x1, x2, x3, x4, x5, x6, x7, x8, x9, x10, x11, x12, x13, x14, x15], y < 4294967296) (hl : xs.length = 128) (hxs : ∀ y ∈ xs, y < 4294967296) (hpc : pc < 512) (hld : ld4 128 pc = true) (hw : xs.getD (pc / 4) 0 = w)
    (hd1 : Fn Try.prog 47 [.s (.int .u32 w)] [] (· = ⟨.tup [.agg (iv o A B C m), .s (.bool true)], [], []⟩)) (hd2 : Fn Try.prog 71 [.s (.int .u32 w)] [] (· = ⟨.tup [.agg (iv o A B C m), .s (.bool true)], [], []⟩))
    (hA : A < 16) (hB : B < 16) (hC : C < 16) (hm : IntKind.u32.wrap m = (m' : Int)) (hm' : m' < 4294967296) (ho : o = 64) : Both [x0, x1, x2, x3, x4, x5, x6, x7, x8, x9, x10, x11, x12, x13, x14, x15] pc xs := by
  have lA := xs_lt hrl A
  have lB := xs_lt hrl B
  have lC := xs_lt hrl C
  obtain ⟨xA, gA⟩ : ∃ z, [x0, x1, x2, x3, x4, x5, x6, x7, x8, x9, x10, x11, x12, x13, x14, x15].getD A 0 = z := ⟨_, rfl⟩
  obtain ⟨xB, gB⟩ : ∃ z, [x0, x1, x2, x3, x4, x5, x6, x7, x8, x9, x10, x11, x12, x13, x14, x15].getD B 0 = z := ⟨_, rfl⟩
  obtain ⟨xC, gC⟩ : ∃ z, [x0, x1, x2, x3, x4, x5, x6, x7, x8, x9, x10, x11, x12, x13, x14, x15].getD C 0 = z := ⟨_, rfl⟩
  rw [gA] at lA
  rw [gB] at lB
  rw [gC] at lC
  exact ⟨[x0, x1, x2, x3, x4, x5, x6, x7, x8, x9, x10, x11, x12, x13, x14, x15], pc + 4, [1, 0, 0, 0, 0, 0, 0, 0], xs, 4, 0, 0, 0, rfl, rfl, hl, exec_pe [x0, x1, x2, x3, x4, x5, x6, x7, x8, x9, x10, x11, x12, x13, x14, x15] pc xs w o A B C m [x0, x1, x2, x3, x4, x5, x6, x7, x8, x9, x10, x11, x12, x13, x14, x15] (pc + 4) [1, 0, 0, 0, 0, 0, 0, 0] 4 0 0 0 rfl hl (by omega) hld hw hd1 (by omega) (ex_halt x0 x1 x2 x3 x4 x5 x6 x7 x8 x9 x10 x11 x12 x13 x14 x15 pc A B C xA xB xC m' 0 o m hpc hA hB hC gA gB gC hm ho) rfl rfl, rexec [x0, x1, x2, x3, x4, x5, x6, x7, x8, x9, x10, x11, x12, x13, x14, x15] pc xs [x0, x1, x2, x3, x4, x5, x6, x7, x8, x9, x10, x11, x12, x13, x14, x15] (pc + 4) [1, 0, 0, 0, 0, 0, 0, 0] 4 0 0 0 rfl hl (do_sys [x0, x1, x2, x3, x4, x5, x6, x7, x8, x9, x10, x11, x12, x13, x14, x15] pc xs w o A B C m [x0, x1, x2, x3, x4, x5, x6, x7, x8, x9, x10, x11, x12, x13, x14, x15] (pc + 4) [1, 0, 0, 0, 0, 0, 0, 0] 4 0 0 0 rfl hl (by omega) hld hw hd2 (by omega) (rs_halt x0 x1 x2 x3 x4 x5 x6 x7 x8 x9 x10 x11 x12 x13 x14 x15 pc A B C xA xB xC m' 0 o m hpc hA hB hC gA gB gC hm ho) rfl rfl) rfl rfl⟩
set_option maxRecDepth 100000 in
theorem both_32 (x0 x1 x2 x3 x4 x5 x6 x7 x8 x9 x10 x11 x12 x13 x14 x15 pc w A B C m' : Nat) (o m : Int) (xs : List Nat) (hrl : ∀ y ∈ [x0, x1, x2, x3, x4, x5, x6, x7, x8, x9, x10, x11, x12, x13, x14, x15], y < 4294967296) (hl : xs.length = 128) (hxs : ∀ y ∈ xs, y < 4294967296) (hpc : pc < 512) (hld : ld4 128 pc = true) (hw : xs.getD (pc / 4) 0 = w)
    (hd1 : Fn Try.prog 47 [.s (.int .u32 w)] [] (· = ⟨.tup [.agg (iv o A B C m), .s (.bool true)], [], []⟩)) (hd2 : Fn Try.prog 71 [.s (.int .u32 w)] [] (· = ⟨.tup [.agg (iv o A B C m), .s (.bool true)], [], []⟩))
    (hA : A < 16) (hB : B < 16) (hC : C < 16) (hm : IntKind.u32.wrap m = (m' : Int)) (hm' : m' < 4294967296) (ho : o = 32) (hC0 : C = 0) : Both [x0, x1, x2, x3, x4, x5, x6, x7, x8, x9, x10, x11, x12, x13, x14, x15] pc xs := by
  have lA := xs_lt hrl A
  have lB := xs_lt hrl B
  have lC := xs_lt hrl C
  obtain ⟨xA, gA⟩ : ∃ z, [x0, x1, x2, x3, x4, x5, x6, x7, x8, x9, x10, x11, x12, x13, x14, x15].getD A 0 = z := ⟨_, rfl⟩
  obtain ⟨xB, gB⟩ : ∃ z, [x0, x1, x2, x3, x4, x5, x6, x7, x8, x9, x10, x11, x12, x13, x14, x15].getD B 0 = z := ⟨_, rfl⟩
  obtain ⟨xC, gC⟩ : ∃ z, [x0, x1, x2, x3, x4, x5, x6, x7, x8, x9, x10, x11, x12, x13, x14, x15].getD C 0 = z := ⟨_, rfl⟩
  rw [gA] at lA
  rw [gB] at lB
  rw [gC] at lC
  subst hC0
  obtain ⟨va, hv⟩ : ∃ va : Nat, IntKind.u32.wrap ((xB : Int) + (m' : Int)) = (va : Int) := ⟨(IntKind.u32.wrap ((xB : Int) + (m' : Int))).toNat, by rw [wu32']; omega⟩
  have hva : va < 4294967296 := by rw [wu32'] at hv; omega
  subst ho
  by_cases hbad : va % 4 ≠ 0
  · exact ⟨[x0, x1, x2, x3, x4, x5, x6, x7, x8, x9, x10, x11, x12, x13, x14, x15], 0, [trapS 1, 0, pc, 3, va, 0, 0, 0], xs, 0, 0, 0, 0, rfl, rfl, hl, exec_load [x0, x1, x2, x3, x4, x5, x6, x7, x8, x9, x10, x11, x12, x13, x14, x15] pc [1, 0, 0, 0, 0, 0, 0, 0] xs xs 128 w 32 A B (0 : Nat) m [x0, x1, x2, x3, x4, x5, x6, x7, x8, x9, x10, x11, x12, x13, x14, x15] 0 [trapS 1, 0, pc, 3, va, 0, 0, 0] rfl rfl rfl hl (by omega) (by omega) hld hw hd1 (by omega) (tr32_mis x0 x1 x2 x3 x4 x5 x6 x7 x8 x9 x10 x11 x12 x13 x14 x15 pc A B xA xB m' va 0 m xs hl hxs hpc hA hB gA gB hm hv hva hbad) rfl rfl, rexec [x0, x1, x2, x3, x4, x5, x6, x7, x8, x9, x10, x11, x12, x13, x14, x15] pc xs [x0, x1, x2, x3, x4, x5, x6, x7, x8, x9, x10, x11, x12, x13, x14, x15] 0 [trapS 1, 0, pc, 3, va, 0, 0, 0] 0 0 0 0 rfl hl (do_tr [x0, x1, x2, x3, x4, x5, x6, x7, x8, x9, x10, x11, x12, x13, x14, x15] pc xs w 32 A B (0 : Nat) m [x0, x1, x2, x3, x4, x5, x6, x7, x8, x9, x10, x11, x12, x13, x14, x15] 0 [trapS 1, 0, pc, 3, va, 0, 0, 0] rfl hl (by omega) hld hw hd2 (by omega) (rt32_mis x0 x1 x2 x3 x4 x5 x6 x7 x8 x9 x10 x11 x12 x13 x14 x15 pc A B xA xB m' va 0 m xs hl hxs hpc hA hB gA gB hm hv hva hbad) rfl rfl) rfl rfl⟩
  cases hq : ld4 128 va with
  | false =>
    exact ⟨[x0, x1, x2, x3, x4, x5, x6, x7, x8, x9, x10, x11, x12, x13, x14, x15], 0, [trapS 1, 0, pc, 5, va, 0, 0, 0], xs, 0, 0, 0, 0, rfl, rfl, hl, exec_load [x0, x1, x2, x3, x4, x5, x6, x7, x8, x9, x10, x11, x12, x13, x14, x15] pc [1, 0, 0, 0, 0, 0, 0, 0] xs xs 128 w 32 A B (0 : Nat) m [x0, x1, x2, x3, x4, x5, x6, x7, x8, x9, x10, x11, x12, x13, x14, x15] 0 [trapS 1, 0, pc, 5, va, 0, 0, 0] rfl rfl rfl hl (by omega) (by omega) hld hw hd1 (by omega) (tr32_out4 x0 x1 x2 x3 x4 x5 x6 x7 x8 x9 x10 x11 x12 x13 x14 x15 pc A B xA xB m' va 0 m xs hl hxs hpc hA hB gA gB hm hv hva ⟨by omega, hq⟩) rfl rfl, rexec [x0, x1, x2, x3, x4, x5, x6, x7, x8, x9, x10, x11, x12, x13, x14, x15] pc xs [x0, x1, x2, x3, x4, x5, x6, x7, x8, x9, x10, x11, x12, x13, x14, x15] 0 [trapS 1, 0, pc, 5, va, 0, 0, 0] 0 0 0 0 rfl hl (do_tr [x0, x1, x2, x3, x4, x5, x6, x7, x8, x9, x10, x11, x12, x13, x14, x15] pc xs w 32 A B (0 : Nat) m [x0, x1, x2, x3, x4, x5, x6, x7, x8, x9, x10, x11, x12, x13, x14, x15] 0 [trapS 1, 0, pc, 5, va, 0, 0, 0] rfl hl (by omega) hld hw hd2 (by omega) (rt32_out4 x0 x1 x2 x3 x4 x5 x6 x7 x8 x9 x10 x11 x12 x13 x14 x15 pc A B xA xB m' va 0 m xs hl hxs hpc hA hB gA gB hm hv hva ⟨by omega, hq⟩) rfl rfl) rfl rfl⟩
  | true =>
    obtain ⟨V, hV⟩ : ∃ V, xs.getD (va / 4) 0 = V := ⟨_, rfl⟩
    obtain ⟨y0, y1, y2, y3, y4, y5, y6, y7, y8, y9, y10, y11, y12, y13, y14, y15, hy⟩ := len16 (show (setR [x0, x1, x2, x3, x4, x5, x6, x7, x8, x9, x10, x11, x12, x13, x14, x15] A V).length = 16 by rw [setR_len]; rfl)
    exact ⟨[y0, y1, y2, y3, y4, y5, y6, y7, y8, y9, y10, y11, y12, y13, y14, y15], (pc + 4), [1, 0, 0, 0, 0, 0, 0, 0], xs, 0, 0, 0, 0, rfl, rfl, hl, exec_load [x0, x1, x2, x3, x4, x5, x6, x7, x8, x9, x10, x11, x12, x13, x14, x15] pc [1, 0, 0, 0, 0, 0, 0, 0] xs xs 128 w 32 A B (0 : Nat) m [y0, y1, y2, y3, y4, y5, y6, y7, y8, y9, y10, y11, y12, y13, y14, y15] (pc + 4) [1, 0, 0, 0, 0, 0, 0, 0] rfl rfl rfl hl (by omega) (by omega) hld hw hd1 (by omega) (tr32_ok x0 x1 x2 x3 x4 x5 x6 x7 x8 x9 x10 x11 x12 x13 x14 x15 pc A B xA xB m' va V m xs y0 y1 y2 y3 y4 y5 y6 y7 y8 y9 y10 y11 y12 y13 y14 y15 hl hxs hpc hA hB gA gB hm hv hva hq hy hV) rfl rfl, rexec [x0, x1, x2, x3, x4, x5, x6, x7, x8, x9, x10, x11, x12, x13, x14, x15] pc xs [y0, y1, y2, y3, y4, y5, y6, y7, y8, y9, y10, y11, y12, y13, y14, y15] (pc + 4) [1, 0, 0, 0, 0, 0, 0, 0] 0 0 0 0 rfl hl (do_tr [x0, x1, x2, x3, x4, x5, x6, x7, x8, x9, x10, x11, x12, x13, x14, x15] pc xs w 32 A B (0 : Nat) m [y0, y1, y2, y3, y4, y5, y6, y7, y8, y9, y10, y11, y12, y13, y14, y15] (pc + 4) [1, 0, 0, 0, 0, 0, 0, 0] rfl hl (by omega) hld hw hd2 (by omega) (rt32_ok x0 x1 x2 x3 x4 x5 x6 x7 x8 x9 x10 x11 x12 x13 x14 x15 pc A B xA xB m' va V m xs y0 y1 y2 y3 y4 y5 y6 y7 y8 y9 y10 y11 y12 y13 y14 y15 hl hxs hpc hA hB gA gB hm hv hva hq hy hV) rfl rfl) rfl rfl⟩
set_option maxRecDepth 100000 in
theorem both_33 (x0 x1 x2 x3 x4 x5 x6 x7 x8 x9 x10 x11 x12 x13 x14 x15 pc w A B C m' : Nat) (o m : Int) (xs : List Nat) (hrl : ∀ y ∈ [x0, x1, x2, x3, x4, x5, x6, x7, x8, x9, x10, x11, x12, x13, x14, x15], y < 4294967296) (hl : xs.length = 128) (hxs : ∀ y ∈ xs, y < 4294967296) (hpc : pc < 512) (hld : ld4 128 pc = true) (hw : xs.getD (pc / 4) 0 = w)
    (hd1 : Fn Try.prog 47 [.s (.int .u32 w)] [] (· = ⟨.tup [.agg (iv o A B C m), .s (.bool true)], [], []⟩)) (hd2 : Fn Try.prog 71 [.s (.int .u32 w)] [] (· = ⟨.tup [.agg (iv o A B C m), .s (.bool true)], [], []⟩))
    (hA : A < 16) (hB : B < 16) (hC : C < 16) (hm : IntKind.u32.wrap m = (m' : Int)) (hm' : m' < 4294967296) (ho : o = 33) (hC0 : C = 0) : Both [x0, x1, x2, x3, x4, x5, x6, x7, x8, x9, x10, x11, x12, x13, x14, x15] pc xs := by
  have lA := xs_lt hrl A
  have lB := xs_lt hrl B
  have lC := xs_lt hrl C
  obtain ⟨xA, gA⟩ : ∃ z, [x0, x1, x2, x3, x4, x5, x6, x7, x8, x9, x10, x11, x12, x13, x14, x15].getD A 0 = z := ⟨_, rfl⟩
  obtain ⟨xB, gB⟩ : ∃ z, [x0, x1, x2, x3, x4, x5, x6, x7, x8, x9, x10, x11, x12, x13, x14, x15].getD B 0 = z := ⟨_, rfl⟩
  obtain ⟨xC, gC⟩ : ∃ z, [x0, x1, x2, x3, x4, x5, x6, x7, x8, x9, x10, x11, x12, x13, x14, x15].getD C 0 = z := ⟨_, rfl⟩
  rw [gA] at lA
  rw [gB] at lB
  rw [gC] at lC
  subst hC0
  obtain ⟨va, hv⟩ : ∃ va : Nat, IntKind.u32.wrap ((xB : Int) + (m' : Int)) = (va : Int) := ⟨(IntKind.u32.wrap ((xB : Int) + (m' : Int))).toNat, by rw [wu32']; omega⟩
  have hva : va < 4294967296 := by rw [wu32'] at hv; omega
  subst ho
  cases hq : ld1 128 va with
  | false =>
    exact ⟨[x0, x1, x2, x3, x4, x5, x6, x7, x8, x9, x10, x11, x12, x13, x14, x15], 0, [trapS 1, 0, pc, 5, va, 0, 0, 0], xs, 0, 0, 0, 0, rfl, rfl, hl, exec_load [x0, x1, x2, x3, x4, x5, x6, x7, x8, x9, x10, x11, x12, x13, x14, x15] pc [1, 0, 0, 0, 0, 0, 0, 0] xs xs 128 w 33 A B (0 : Nat) m [x0, x1, x2, x3, x4, x5, x6, x7, x8, x9, x10, x11, x12, x13, x14, x15] 0 [trapS 1, 0, pc, 5, va, 0, 0, 0] rfl rfl rfl hl (by omega) (by omega) hld hw hd1 (by omega) (tr33_out1 x0 x1 x2 x3 x4 x5 x6 x7 x8 x9 x10 x11 x12 x13 x14 x15 pc A B xA xB m' va 0 m xs hl hxs hpc hA hB gA gB hm hv hva hq) rfl rfl, rexec [x0, x1, x2, x3, x4, x5, x6, x7, x8, x9, x10, x11, x12, x13, x14, x15] pc xs [x0, x1, x2, x3, x4, x5, x6, x7, x8, x9, x10, x11, x12, x13, x14, x15] 0 [trapS 1, 0, pc, 5, va, 0, 0, 0] 0 0 0 0 rfl hl (do_tr [x0, x1, x2, x3, x4, x5, x6, x7, x8, x9, x10, x11, x12, x13, x14, x15] pc xs w 33 A B (0 : Nat) m [x0, x1, x2, x3, x4, x5, x6, x7, x8, x9, x10, x11, x12, x13, x14, x15] 0 [trapS 1, 0, pc, 5, va, 0, 0, 0] rfl hl (by omega) hld hw hd2 (by omega) (rt33_out1 x0 x1 x2 x3 x4 x5 x6 x7 x8 x9 x10 x11 x12 x13 x14 x15 pc A B xA xB m' va 0 m xs hl hxs hpc hA hB gA gB hm hv hva hq) rfl rfl) rfl rfl⟩
  | true =>
    obtain ⟨V, hV⟩ : ∃ V, sx8 (byN (xs.getD (va / 4) 0) va) = V := ⟨_, rfl⟩
    obtain ⟨y0, y1, y2, y3, y4, y5, y6, y7, y8, y9, y10, y11, y12, y13, y14, y15, hy⟩ := len16 (show (setR [x0, x1, x2, x3, x4, x5, x6, x7, x8, x9, x10, x11, x12, x13, x14, x15] A V).length = 16 by rw [setR_len]; rfl)
    exact ⟨[y0, y1, y2, y3, y4, y5, y6, y7, y8, y9, y10, y11, y12, y13, y14, y15], (pc + 4), [1, 0, 0, 0, 0, 0, 0, 0], xs, 0, 0, 0, 0, rfl, rfl, hl, exec_load [x0, x1, x2, x3, x4, x5, x6, x7, x8, x9, x10, x11, x12, x13, x14, x15] pc [1, 0, 0, 0, 0, 0, 0, 0] xs xs 128 w 33 A B (0 : Nat) m [y0, y1, y2, y3, y4, y5, y6, y7, y8, y9, y10, y11, y12, y13, y14, y15] (pc + 4) [1, 0, 0, 0, 0, 0, 0, 0] rfl rfl rfl hl (by omega) (by omega) hld hw hd1 (by omega) (tr33_ok x0 x1 x2 x3 x4 x5 x6 x7 x8 x9 x10 x11 x12 x13 x14 x15 pc A B xA xB m' va V m xs y0 y1 y2 y3 y4 y5 y6 y7 y8 y9 y10 y11 y12 y13 y14 y15 hl hxs hpc hA hB gA gB hm hv hva hq hy hV) rfl rfl, rexec [x0, x1, x2, x3, x4, x5, x6, x7, x8, x9, x10, x11, x12, x13, x14, x15] pc xs [y0, y1, y2, y3, y4, y5, y6, y7, y8, y9, y10, y11, y12, y13, y14, y15] (pc + 4) [1, 0, 0, 0, 0, 0, 0, 0] 0 0 0 0 rfl hl (do_tr [x0, x1, x2, x3, x4, x5, x6, x7, x8, x9, x10, x11, x12, x13, x14, x15] pc xs w 33 A B (0 : Nat) m [y0, y1, y2, y3, y4, y5, y6, y7, y8, y9, y10, y11, y12, y13, y14, y15] (pc + 4) [1, 0, 0, 0, 0, 0, 0, 0] rfl hl (by omega) hld hw hd2 (by omega) (rt33_ok x0 x1 x2 x3 x4 x5 x6 x7 x8 x9 x10 x11 x12 x13 x14 x15 pc A B xA xB m' va V m xs y0 y1 y2 y3 y4 y5 y6 y7 y8 y9 y10 y11 y12 y13 y14 y15 hl hxs hpc hA hB gA gB hm hv hva hq hy hV) rfl rfl) rfl rfl⟩
set_option maxRecDepth 100000 in
theorem both_34 (x0 x1 x2 x3 x4 x5 x6 x7 x8 x9 x10 x11 x12 x13 x14 x15 pc w A B C m' : Nat) (o m : Int) (xs : List Nat) (hrl : ∀ y ∈ [x0, x1, x2, x3, x4, x5, x6, x7, x8, x9, x10, x11, x12, x13, x14, x15], y < 4294967296) (hl : xs.length = 128) (hxs : ∀ y ∈ xs, y < 4294967296) (hpc : pc < 512) (hld : ld4 128 pc = true) (hw : xs.getD (pc / 4) 0 = w)
    (hd1 : Fn Try.prog 47 [.s (.int .u32 w)] [] (· = ⟨.tup [.agg (iv o A B C m), .s (.bool true)], [], []⟩)) (hd2 : Fn Try.prog 71 [.s (.int .u32 w)] [] (· = ⟨.tup [.agg (iv o A B C m), .s (.bool true)], [], []⟩))
    (hA : A < 16) (hB : B < 16) (hC : C < 16) (hm : IntKind.u32.wrap m = (m' : Int)) (hm' : m' < 4294967296) (ho : o = 34) (hC0 : C = 0) : Both [x0, x1, x2, x3, x4, x5, x6, x7, x8, x9, x10, x11, x12, x13, x14, x15] pc xs := by
  have lA := xs_lt hrl A
  have lB := xs_lt hrl B
  have lC := xs_lt hrl C
  obtain ⟨xA, gA⟩ : ∃ z, [x0, x1, x2, x3, x4, x5, x6, x7, x8, x9, x10, x11, x12, x13, x14, x15].getD A 0 = z := ⟨_, rfl⟩
  obtain ⟨xB, gB⟩ : ∃ z, [x0, x1, x2, x3, x4, x5, x6, x7, x8, x9, x10, x11, x12, x13, x14, x15].getD B 0 = z := ⟨_, rfl⟩
  obtain ⟨xC, gC⟩ : ∃ z, [x0, x1, x2, x3, x4, x5, x6, x7, x8, x9, x10, x11, x12, x13, x14, x15].getD C 0 = z := ⟨_, rfl⟩
  rw [gA] at lA
  rw [gB] at lB
  rw [gC] at lC
  subst hC0
  obtain ⟨va, hv⟩ : ∃ va : Nat, IntKind.u32.wrap ((xB : Int) + (m' : Int)) = (va : Int) := ⟨(IntKind.u32.wrap ((xB : Int) + (m' : Int))).toNat, by rw [wu32']; omega⟩
  have hva : va < 4294967296 := by rw [wu32'] at hv; omega
  subst ho
  cases hq : ld1 128 va with
  | false =>
    exact ⟨[x0, x1, x2, x3, x4, x5, x6, x7, x8, x9, x10, x11, x12, x13, x14, x15], 0, [trapS 1, 0, pc, 5, va, 0, 0, 0], xs, 0, 0, 0, 0, rfl, rfl, hl, exec_load [x0, x1, x2, x3, x4, x5, x6, x7, x8, x9, x10, x11, x12, x13, x14, x15] pc [1, 0, 0, 0, 0, 0, 0, 0] xs xs 128 w 34 A B (0 : Nat) m [x0, x1, x2, x3, x4, x5, x6, x7, x8, x9, x10, x11, x12, x13, x14, x15] 0 [trapS 1, 0, pc, 5, va, 0, 0, 0] rfl rfl rfl hl (by omega) (by omega) hld hw hd1 (by omega) (tr34_out1 x0 x1 x2 x3 x4 x5 x6 x7 x8 x9 x10 x11 x12 x13 x14 x15 pc A B xA xB m' va 0 m xs hl hxs hpc hA hB gA gB hm hv hva hq) rfl rfl, rexec [x0, x1, x2, x3, x4, x5, x6, x7, x8, x9, x10, x11, x12, x13, x14, x15] pc xs [x0, x1, x2, x3, x4, x5, x6, x7, x8, x9, x10, x11, x12, x13, x14, x15] 0 [trapS 1, 0, pc, 5, va, 0, 0, 0] 0 0 0 0 rfl hl (do_tr [x0, x1, x2, x3, x4, x5, x6, x7, x8, x9, x10, x11, x12, x13, x14, x15] pc xs w 34 A B (0 : Nat) m [x0, x1, x2, x3, x4, x5, x6, x7, x8, x9, x10, x11, x12, x13, x14, x15] 0 [trapS 1, 0, pc, 5, va, 0, 0, 0] rfl hl (by omega) hld hw hd2 (by omega) (rt34_out1 x0 x1 x2 x3 x4 x5 x6 x7 x8 x9 x10 x11 x12 x13 x14 x15 pc A B xA xB m' va 0 m xs hl hxs hpc hA hB gA gB hm hv hva hq) rfl rfl) rfl rfl⟩
  | true =>
    obtain ⟨V, hV⟩ : ∃ V, byN (xs.getD (va / 4) 0) va = V := ⟨_, rfl⟩
    obtain ⟨y0, y1, y2, y3, y4, y5, y6, y7, y8, y9, y10, y11, y12, y13, y14, y15, hy⟩ := len16 (show (setR [x0, x1, x2, x3, x4, x5, x6, x7, x8, x9, x10, x11, x12, x13, x14, x15] A V).length = 16 by rw [setR_len]; rfl)
    exact ⟨[y0, y1, y2, y3, y4, y5, y6, y7, y8, y9, y10, y11, y12, y13, y14, y15], (pc + 4), [1, 0, 0, 0, 0, 0, 0, 0], xs, 0, 0, 0, 0, rfl, rfl, hl, exec_load [x0, x1, x2, x3, x4, x5, x6, x7, x8, x9, x10, x11, x12, x13, x14, x15] pc [1, 0, 0, 0, 0, 0, 0, 0] xs xs 128 w 34 A B (0 : Nat) m [y0, y1, y2, y3, y4, y5, y6, y7, y8, y9, y10, y11, y12, y13, y14, y15] (pc + 4) [1, 0, 0, 0, 0, 0, 0, 0] rfl rfl rfl hl (by omega) (by omega) hld hw hd1 (by omega) (tr34_ok x0 x1 x2 x3 x4 x5 x6 x7 x8 x9 x10 x11 x12 x13 x14 x15 pc A B xA xB m' va V m xs y0 y1 y2 y3 y4 y5 y6 y7 y8 y9 y10 y11 y12 y13 y14 y15 hl hxs hpc hA hB gA gB hm hv hva hq hy hV) rfl rfl, rexec [x0, x1, x2, x3, x4, x5, x6, x7, x8, x9, x10, x11, x12, x13, x14, x15] pc xs [y0, y1, y2, y3, y4, y5, y6, y7, y8, y9, y10, y11, y12, y13, y14, y15] (pc + 4) [1, 0, 0, 0, 0, 0, 0, 0] 0 0 0 0 rfl hl (do_tr [x0, x1, x2, x3, x4, x5, x6, x7, x8, x9, x10, x11, x12, x13, x14, x15] pc xs w 34 A B (0 : Nat) m [y0, y1, y2, y3, y4, y5, y6, y7, y8, y9, y10, y11, y12, y13, y14, y15] (pc + 4) [1, 0, 0, 0, 0, 0, 0, 0] rfl hl (by omega) hld hw hd2 (by omega) (rt34_ok x0 x1 x2 x3 x4 x5 x6 x7 x8 x9 x10 x11 x12 x13 x14 x15 pc A B xA xB m' va V m xs y0 y1 y2 y3 y4 y5 y6 y7 y8 y9 y10 y11 y12 y13 y14 y15 hl hxs hpc hA hB gA gB hm hv hva hq hy hV) rfl rfl) rfl rfl⟩
set_option maxRecDepth 100000 in
theorem both_35 (x0 x1 x2 x3 x4 x5 x6 x7 x8 x9 x10 x11 x12 x13 x14 x15 pc w A B C m' : Nat) (o m : Int) (xs : List Nat) (hrl : ∀ y ∈ [x0, x1, x2, x3, x4, x5, x6, x7, x8, x9, x10, x11, x12, x13, x14, x15], y < 4294967296) (hl : xs.length = 128) (hxs : ∀ y ∈ xs, y < 4294967296) (hpc : pc < 512) (hld : ld4 128 pc = true) (hw : xs.getD (pc / 4) 0 = w)
    (hd1 : Fn Try.prog 47 [.s (.int .u32 w)] [] (· = ⟨.tup [.agg (iv o A B C m), .s (.bool true)], [], []⟩)) (hd2 : Fn Try.prog 71 [.s (.int .u32 w)] [] (· = ⟨.tup [.agg (iv o A B C m), .s (.bool true)], [], []⟩))
    (hA : A < 16) (hB : B < 16) (hC : C < 16) (hm : IntKind.u32.wrap m = (m' : Int)) (hm' : m' < 4294967296) (ho : o = 35) (hC0 : C = 0) : Both [x0, x1, x2, x3, x4, x5, x6, x7, x8, x9, x10, x11, x12, x13, x14, x15] pc xs := by
  have lA := xs_lt hrl A
  have lB := xs_lt hrl B
  have lC := xs_lt hrl C
  obtain ⟨xA, gA⟩ : ∃ z, [x0, x1, x2, x3, x4, x5, x6, x7, x8, x9, x10, x11, x12, x13, x14, x15].getD A 0 = z := ⟨_, rfl⟩
  obtain ⟨xB, gB⟩ : ∃ z, [x0, x1, x2, x3, x4, x5, x6, x7, x8, x9, x10, x11, x12, x13, x14, x15].getD B 0 = z := ⟨_, rfl⟩
  obtain ⟨xC, gC⟩ : ∃ z, [x0, x1, x2, x3, x4, x5, x6, x7, x8, x9, x10, x11, x12, x13, x14, x15].getD C 0 = z := ⟨_, rfl⟩
  rw [gA] at lA
  rw [gB] at lB
  rw [gC] at lC
  subst hC0
  obtain ⟨va, hv⟩ : ∃ va : Nat, IntKind.u32.wrap ((xB : Int) + (m' : Int)) = (va : Int) := ⟨(IntKind.u32.wrap ((xB : Int) + (m' : Int))).toNat, by rw [wu32']; omega⟩
  have hva : va < 4294967296 := by rw [wu32'] at hv; omega
  subst ho
  by_cases hbad : va % 4 ≠ 0
  · exact ⟨[x0, x1, x2, x3, x4, x5, x6, x7, x8, x9, x10, x11, x12, x13, x14, x15], 0, [trapS 1, 0, pc, 3, va, 0, 0, 0], xs, 0, 0, 0, 0, rfl, rfl, hl, exec_store [x0, x1, x2, x3, x4, x5, x6, x7, x8, x9, x10, x11, x12, x13, x14, x15] pc [1, 0, 0, 0, 0, 0, 0, 0] xs xs 128 w 35 A B (0 : Nat) m [x0, x1, x2, x3, x4, x5, x6, x7, x8, x9, x10, x11, x12, x13, x14, x15] 0 [trapS 1, 0, pc, 3, va, 0, 0, 0] rfl rfl rfl hl (by omega) (by omega) hld hw hd1 (by omega) (tr35_mis x0 x1 x2 x3 x4 x5 x6 x7 x8 x9 x10 x11 x12 x13 x14 x15 pc A B xA xB m' va 0 m xs hl hxs hpc hA hB gA gB hm hv hva hbad) rfl rfl, rexec [x0, x1, x2, x3, x4, x5, x6, x7, x8, x9, x10, x11, x12, x13, x14, x15] pc xs [x0, x1, x2, x3, x4, x5, x6, x7, x8, x9, x10, x11, x12, x13, x14, x15] 0 [trapS 1, 0, pc, 3, va, 0, 0, 0] 0 0 0 0 rfl hl (do_tr [x0, x1, x2, x3, x4, x5, x6, x7, x8, x9, x10, x11, x12, x13, x14, x15] pc xs w 35 A B (0 : Nat) m [x0, x1, x2, x3, x4, x5, x6, x7, x8, x9, x10, x11, x12, x13, x14, x15] 0 [trapS 1, 0, pc, 3, va, 0, 0, 0] rfl hl (by omega) hld hw hd2 (by omega) (rt35_mis x0 x1 x2 x3 x4 x5 x6 x7 x8 x9 x10 x11 x12 x13 x14 x15 pc A B xA xB m' va 0 m xs hl hxs hpc hA hB gA gB hm hv hva hbad) rfl rfl) rfl rfl⟩
  cases hq : ld4 128 va with
  | false =>
    exact ⟨[x0, x1, x2, x3, x4, x5, x6, x7, x8, x9, x10, x11, x12, x13, x14, x15], 0, [trapS 1, 0, pc, 6, va, 0, 0, 0], xs, 0, 0, 0, 0, rfl, rfl, hl, exec_store [x0, x1, x2, x3, x4, x5, x6, x7, x8, x9, x10, x11, x12, x13, x14, x15] pc [1, 0, 0, 0, 0, 0, 0, 0] xs xs 128 w 35 A B (0 : Nat) m [x0, x1, x2, x3, x4, x5, x6, x7, x8, x9, x10, x11, x12, x13, x14, x15] 0 [trapS 1, 0, pc, 6, va, 0, 0, 0] rfl rfl rfl hl (by omega) (by omega) hld hw hd1 (by omega) (tr35_out4 x0 x1 x2 x3 x4 x5 x6 x7 x8 x9 x10 x11 x12 x13 x14 x15 pc A B xA xB m' va 0 m xs hl hxs hpc hA hB gA gB hm hv hva ⟨by omega, hq⟩) rfl rfl, rexec [x0, x1, x2, x3, x4, x5, x6, x7, x8, x9, x10, x11, x12, x13, x14, x15] pc xs [x0, x1, x2, x3, x4, x5, x6, x7, x8, x9, x10, x11, x12, x13, x14, x15] 0 [trapS 1, 0, pc, 6, va, 0, 0, 0] 0 0 0 0 rfl hl (do_tr [x0, x1, x2, x3, x4, x5, x6, x7, x8, x9, x10, x11, x12, x13, x14, x15] pc xs w 35 A B (0 : Nat) m [x0, x1, x2, x3, x4, x5, x6, x7, x8, x9, x10, x11, x12, x13, x14, x15] 0 [trapS 1, 0, pc, 6, va, 0, 0, 0] rfl hl (by omega) hld hw hd2 (by omega) (rt35_out4 x0 x1 x2 x3 x4 x5 x6 x7 x8 x9 x10 x11 x12 x13 x14 x15 pc A B xA xB m' va 0 m xs hl hxs hpc hA hB gA gB hm hv hva ⟨by omega, hq⟩) rfl rfl) rfl rfl⟩
  | true =>
    exact ⟨[x0, x1, x2, x3, x4, x5, x6, x7, x8, x9, x10, x11, x12, x13, x14, x15], (pc + 4), [1, 0, 0, 0, 0, 0, 0, 0], (xs.set (va / 4) xA), 0, 0, 0, 0, rfl, rfl, by simp [put1_len, hl], exec_store [x0, x1, x2, x3, x4, x5, x6, x7, x8, x9, x10, x11, x12, x13, x14, x15] pc [1, 0, 0, 0, 0, 0, 0, 0] xs (xs.set (va / 4) xA) 128 w 35 A B (0 : Nat) m [x0, x1, x2, x3, x4, x5, x6, x7, x8, x9, x10, x11, x12, x13, x14, x15] (pc + 4) [1, 0, 0, 0, 0, 0, 0, 0] rfl rfl rfl hl (by omega) (by omega) hld hw hd1 (by omega) (tr35_ok x0 x1 x2 x3 x4 x5 x6 x7 x8 x9 x10 x11 x12 x13 x14 x15 pc A B xA xB m' va 0 m xs hl hxs hpc hA hB gA gB hm hv hva hq) rfl rfl, rexecw [x0, x1, x2, x3, x4, x5, x6, x7, x8, x9, x10, x11, x12, x13, x14, x15] pc xs (xs.set (va / 4) xA) [x0, x1, x2, x3, x4, x5, x6, x7, x8, x9, x10, x11, x12, x13, x14, x15] (pc + 4) [1, 0, 0, 0, 0, 0, 0, 0] 0 0 0 0 rfl hl (do_trw [x0, x1, x2, x3, x4, x5, x6, x7, x8, x9, x10, x11, x12, x13, x14, x15] pc xs w 35 A B (0 : Nat) m [x0, x1, x2, x3, x4, x5, x6, x7, x8, x9, x10, x11, x12, x13, x14, x15] (pc + 4) [1, 0, 0, 0, 0, 0, 0, 0] (xs.set (va / 4) xA) rfl hl (by omega) hld hw hd2 (by omega) (rt35_ok x0 x1 x2 x3 x4 x5 x6 x7 x8 x9 x10 x11 x12 x13 x14 x15 pc A B xA xB m' va 0 m xs hl hxs hpc hA hB gA gB hm hv hva hq) rfl rfl) rfl rfl⟩
set_option maxRecDepth 100000 in
theorem both_36 (x0 x1 x2 x3 x4 x5 x6 x7 x8 x9 x10 x11 x12 x13 x14 x15 pc w A B C m' : Nat) (o m : Int) (xs : List Nat) (hrl : ∀ y ∈ [x0, x1, x2, x3, x4, x5, x6, x7, x8, x9, x10, x11, x12, x13, x14, x15], y < 4294967296) (hl : xs.length = 128) (hxs : ∀ y ∈ xs, y < 4294967296) (hpc : pc < 512) (hld : ld4 128 pc = true) (hw : xs.getD (pc / 4) 0 = w)
    (hd1 : Fn Try.prog 47 [.s (.int .u32 w)] [] (· = ⟨.tup [.agg (iv o A B C m), .s (.bool true)], [], []⟩)) (hd2 : Fn Try.prog 71 [.s (.int .u32 w)] [] (· = ⟨.tup [.agg (iv o A B C m), .s (.bool true)], [], []⟩))
    (hA : A < 16) (hB : B < 16) (hC : C < 16) (hm : IntKind.u32.wrap m = (m' : Int)) (hm' : m' < 4294967296) (ho : o = 36) (hC0 : C = 0) : Both [x0, x1, x2, x3, x4, x5, x6, x7, x8, x9, x10, x11, x12, x13, x14, x15] pc xs := by
  have lA := xs_lt hrl A
  have lB := xs_lt hrl B
  have lC := xs_lt hrl C
  obtain ⟨xA, gA⟩ : ∃ z, [x0, x1, x2, x3, x4, x5, x6, x7, x8, x9, x10, x11, x12, x13, x14, x15].getD A 0 = z := ⟨_, rfl⟩
  obtain ⟨xB, gB⟩ : ∃ z, [x0, x1, x2, x3, x4, x5, x6, x7, x8, x9, x10, x11, x12, x13, x14, x15].getD B 0 = z := ⟨_, rfl⟩
  obtain ⟨xC, gC⟩ : ∃ z, [x0, x1, x2, x3, x4, x5, x6, x7, x8, x9, x10, x11, x12, x13, x14, x15].getD C 0 = z := ⟨_, rfl⟩
  rw [gA] at lA
  rw [gB] at lB
  rw [gC] at lC
  subst hC0
  obtain ⟨va, hv⟩ : ∃ va : Nat, IntKind.u32.wrap ((xB : Int) + (m' : Int)) = (va : Int) := ⟨(IntKind.u32.wrap ((xB : Int) + (m' : Int))).toNat, by rw [wu32']; omega⟩
  have hva : va < 4294967296 := by rw [wu32'] at hv; omega
  subst ho
  cases hq : ld1 128 va with
  | false =>
    exact ⟨[x0, x1, x2, x3, x4, x5, x6, x7, x8, x9, x10, x11, x12, x13, x14, x15], 0, [trapS 1, 0, pc, 6, va, 0, 0, 0], xs, 0, 0, 0, 0, rfl, rfl, hl, exec_store [x0, x1, x2, x3, x4, x5, x6, x7, x8, x9, x10, x11, x12, x13, x14, x15] pc [1, 0, 0, 0, 0, 0, 0, 0] xs xs 128 w 36 A B (0 : Nat) m [x0, x1, x2, x3, x4, x5, x6, x7, x8, x9, x10, x11, x12, x13, x14, x15] 0 [trapS 1, 0, pc, 6, va, 0, 0, 0] rfl rfl rfl hl (by omega) (by omega) hld hw hd1 (by omega) (tr36_out1 x0 x1 x2 x3 x4 x5 x6 x7 x8 x9 x10 x11 x12 x13 x14 x15 pc A B xA xB m' va 0 m xs hl hxs hpc hA hB gA gB hm hv hva hq) rfl rfl, rexec [x0, x1, x2, x3, x4, x5, x6, x7, x8, x9, x10, x11, x12, x13, x14, x15] pc xs [x0, x1, x2, x3, x4, x5, x6, x7, x8, x9, x10, x11, x12, x13, x14, x15] 0 [trapS 1, 0, pc, 6, va, 0, 0, 0] 0 0 0 0 rfl hl (do_tr [x0, x1, x2, x3, x4, x5, x6, x7, x8, x9, x10, x11, x12, x13, x14, x15] pc xs w 36 A B (0 : Nat) m [x0, x1, x2, x3, x4, x5, x6, x7, x8, x9, x10, x11, x12, x13, x14, x15] 0 [trapS 1, 0, pc, 6, va, 0, 0, 0] rfl hl (by omega) hld hw hd2 (by omega) (rt36_out1 x0 x1 x2 x3 x4 x5 x6 x7 x8 x9 x10 x11 x12 x13 x14 x15 pc A B xA xB m' va 0 m xs hl hxs hpc hA hB gA gB hm hv hva hq) rfl rfl) rfl rfl⟩
  | true =>
    exact ⟨[x0, x1, x2, x3, x4, x5, x6, x7, x8, x9, x10, x11, x12, x13, x14, x15], (pc + 4), [1, 0, 0, 0, 0, 0, 0, 0], (put1 xs va xA), 0, 0, 0, 0, rfl, rfl, by simp [put1_len, hl], exec_store [x0, x1, x2, x3, x4, x5, x6, x7, x8, x9, x10, x11, x12, x13, x14, x15] pc [1, 0, 0, 0, 0, 0, 0, 0] xs (put1 xs va xA) 128 w 36 A B (0 : Nat) m [x0, x1, x2, x3, x4, x5, x6, x7, x8, x9, x10, x11, x12, x13, x14, x15] (pc + 4) [1, 0, 0, 0, 0, 0, 0, 0] rfl rfl rfl hl (by omega) (by omega) hld hw hd1 (by omega) (tr36_ok x0 x1 x2 x3 x4 x5 x6 x7 x8 x9 x10 x11 x12 x13 x14 x15 pc A B xA xB m' va 0 m xs hl hxs hpc hA hB gA gB hm hv hva hq) rfl rfl, rexecw [x0, x1, x2, x3, x4, x5, x6, x7, x8, x9, x10, x11, x12, x13, x14, x15] pc xs (put1 xs va xA) [x0, x1, x2, x3, x4, x5, x6, x7, x8, x9, x10, x11, x12, x13, x14, x15] (pc + 4) [1, 0, 0, 0, 0, 0, 0, 0] 0 0 0 0 rfl hl (do_trw [x0, x1, x2, x3, x4, x5, x6, x7, x8, x9, x10, x11, x12, x13, x14, x15] pc xs w 36 A B (0 : Nat) m [x0, x1, x2, x3, x4, x5, x6, x7, x8, x9, x10, x11, x12, x13, x14, x15] (pc + 4) [1, 0, 0, 0, 0, 0, 0, 0] (put1 xs va xA) rfl hl (by omega) hld hw hd2 (by omega) (rt36_ok x0 x1 x2 x3 x4 x5 x6 x7 x8 x9 x10 x11 x12 x13 x14 x15 pc A B xA xB m' va 0 m xs hl hxs hpc hA hB gA gB hm hv hva hq) rfl rfl) rfl rfl⟩
end Go.Proofs.Ytckdamhnmcmbbaa
