/- The instruction set's layer. -/
import Derived.Test.YtcaddlighhiepaaIsa0
import Derived.Test.YtcaddlighhiepaaWord
namespace Go.Proofs.Ytcaddlighhiepaa
open Go Go.RowKit
set_option linter.unusedSimpArgs false
set_option linter.unusedVariables false
def useA (o : Int) : Bool := decide (1 ≤ o ∧ o ≤ 13 ∨ 16 ≤ o ∧ o ≤ 24 ∨ 32 ≤ o ∧ o ≤ 36 ∨ 40 ≤ o ∧ o ≤ 45 ∨ o = 48 ∨ o = 49 ∨ 58 ≤ o ∧ o ≤ 61)
def useB (o : Int) : Bool := decide (1 ≤ o ∧ o ≤ 13 ∨ 16 ≤ o ∧ o ≤ 23 ∨ 32 ≤ o ∧ o ≤ 36 ∨ 40 ≤ o ∧ o ≤ 45 ∨ o = 49)
def useC (o : Int) : Bool := decide (1 ≤ o ∧ o ≤ 13)
def useS (o : Int) : Bool := decide (o = 16 ∨ o = 23 ∨ 32 ≤ o ∧ o ≤ 36 ∨ 40 ≤ o ∧ o ≤ 45 ∨ o = 48 ∨ o = 49)
def useLo (o : Int) : Int := if useS o then -32768 else 0
def useHi (o : Int) : Int := if useS o then 32767 else if o = 17 ∨ o = 18 ∨ o = 19 ∨ o = 24 then 65535 else if o = 20 ∨ o = 21 ∨ o = 22 then 31 else if o = 58 ∨ o = 59 then 7 else if o = 60 ∨ o = 61 then 11 else 0
def useOk (o : Int) : Bool := useA o || decide (o = 56 ∨ o = 57 ∨ 62 ≤ o ∧ o ≤ 64)
set_option maxRecDepth 100000 in
theorem use_fn (o : Int) : Fn Try.prog 75 [.s (.int .i64 o)] [] (· = ⟨.tup [.agg [.bool (useA o), .bool (useB o), .bool (useC o), .int .i32 (useLo o), .int .i32 (useHi o)], .s (.bool (useOk o))], [], []⟩) := by
  refine fn_of_vc mixed tys_ok _ _ Try.func75 (by kernel_rfl) rfl Try.ntmps75 (by rw [Try.results75]) rfl ?_; dsimp only [argTm, argHl, Nat.zero_add, Nat.reduceAdd, List.length_nil, List.length_cons]
  (repeat' ((conv => whnf); first | (with_reducible apply sd_draw; · kernel_rfl) | (apply Sd.mk; · exact aSd) | ((with_reducible apply Vl.mk (α := Int)); · exact aAr) | ((with_reducible first | apply Vl.mk (α := Bool) | apply Vl.mk (α := Nat) | apply Vl.mk (α := ByteArray) | apply Ge.mk (α := Row) | apply Ge.mk (α := SV) | apply Ge.mk (α := AV)); · exact rfl) | (refine And.intro rfl ?_) | ((with_reducible first | apply Vl.mk (α := List SV) | apply Vl.mk (α := Ef) | apply Vl.mk (α := TV) | apply Ge.mk (α := List SV) | apply Sg.mk | apply Sk.mk); · exact aCl) | ((first | apply Br.mk | apply Gd.mk) <;> (intro hb; first | exact aKl hb | (simp only [d1, d2, beq_iff_eq, bne_iff_ne, d3, d4, d5, d6, Int.not_lt, Int.not_le, ge_iff_le, gt_iff_lt, ne_eq, d7] at hb; first | (exfalso; omega) | skip) | skip)))); (all_goals (try (conv => whnf)))
  all_goals first
    | (subst hb; exact fin_pure rfl rfl)
    | (have h : useA o = false ∧ useB o = false ∧ useC o = false ∧ useS o = false ∧ useOk o = false ∧ useHi o = 0 := by
         simp only [useA, useB, useC, useOk, useS, useHi]; refine ⟨?_, ?_, ?_, ?_, ?_, ?_⟩ <;> simp <;> omega
       refine fin_pure rfl ?_
       simp only [useLo, h]
       rfl)
def privB (o : Int) : Bool := decide (57 ≤ o ∧ o ≤ 64)
set_option maxRecDepth 100000 in
theorem priv_fn (o : Int) : Fn Try.prog 77 [.s (.int .i64 o)] [] (· = ⟨.a (.s (.bool (privB o))), [], []⟩) := by
  refine fn_of_vc mixed tys_ok _ _ Try.func77 (by kernel_rfl) rfl Try.ntmps77 (by rw [Try.results77]) rfl ?_; dsimp only [argTm, argHl, Nat.zero_add, Nat.reduceAdd, List.length_nil, List.length_cons]
  (repeat' ((conv => whnf); first | (with_reducible apply sd_draw; · kernel_rfl) | (apply Sd.mk; · exact aSd) | ((with_reducible apply Vl.mk (α := Int)); · exact aAr) | ((with_reducible first | apply Vl.mk (α := Bool) | apply Vl.mk (α := Nat) | apply Vl.mk (α := ByteArray) | apply Ge.mk (α := Row) | apply Ge.mk (α := SV) | apply Ge.mk (α := AV)); · exact rfl) | (refine And.intro rfl ?_) | ((with_reducible first | apply Vl.mk (α := List SV) | apply Vl.mk (α := Ef) | apply Vl.mk (α := TV) | apply Ge.mk (α := List SV) | apply Sg.mk | apply Sk.mk); · exact aCl) | ((first | apply Br.mk | apply Gd.mk) <;> (intro hb; first | exact aKl hb | (simp only [d1, d2, beq_iff_eq, bne_iff_ne, d3, d4, d5, d6, Int.not_lt, Int.not_le, ge_iff_le, gt_iff_lt, ne_eq, d7] at hb; first | (exfalso; omega) | skip) | skip)))); (all_goals (try (conv => whnf)))
  all_goals (refine fin_pure rfl ?_; simp only [mkRes]; congr 3; first | (subst hb; rfl) | (simp only [privB]; simp; omega))
end Go.Proofs.Ytcaddlighhiepaa
