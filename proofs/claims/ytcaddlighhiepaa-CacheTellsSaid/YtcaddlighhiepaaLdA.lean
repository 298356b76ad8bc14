/- Memory, anew for the abstract machine: loads of words. -/
import Derived.Test.YtcaddlighhiepaaFieA
namespace Go.Proofs.Ytcaddlighhiepaa
open Go Go.RowKit
set_option linter.unusedSimpArgs false
set_option linter.unusedVariables false

/-- A result of numbers, beside one row that was only read. -/
theorem fin_ro1 {r : Row} {σ : St} {x v : TV} (hs : scalT v = true) (hr : allScal r.cells = true) (ho : hpG σ.h 0 = some r) (e : x = v) : Fin [r] (· = ⟨v, [], []⟩) σ x := by
  subst e
  refine Fin.mk ⟨x, [], []⟩ [(0, some 0)] rfl (tvm_scal hs) ?_ rfl
  show HlS _ _ [] ([] ++ [(0, some r)])
  refine hls_row (rowmt_mk rfl ho rfl ?_ (svsm_scal hr)) hls_nil
  cases r.own <;> rfl
def mpg (n : Nat) : Nat := if n % 32 = 0 ∧ n ≤ 1024 then n / 32 else 0
set_option maxRecDepth 100000 in
theorem pages_fn (xs : List Nat) (n : Nat) (hn : n < 4294967296) : Fn Try.prog 93 [.s (.sl 0 0 n)] [⟨false, 1, wsv xs⟩] (· = ⟨.a (.s (.int .i64 (mpg n : Nat))), [], []⟩) := by
  refine fn_of_vc mixed tys_ok _ _ Try.func93 (by kernel_rfl) rfl Try.ntmps93 (by rw [Try.results93]) rfl ?_; dsimp only [argTm, argHl, Nat.zero_add, Nat.reduceAdd, List.length_nil, List.length_cons]
  (repeat' ((conv => whnf); first | (with_reducible apply sd_draw; · kernel_rfl) | (apply Sd.mk; · exact aSd) | ((with_reducible apply Vl.mk (α := Int)); · exact aAr) | ((with_reducible first | apply Vl.mk (α := Bool) | apply Vl.mk (α := Nat) | apply Vl.mk (α := ByteArray) | apply Ge.mk (α := Row) | apply Ge.mk (α := SV) | apply Ge.mk (α := AV)); · exact rfl) | (refine And.intro rfl ?_) | ((with_reducible first | apply Vl.mk (α := List SV) | apply Vl.mk (α := Ef) | apply Vl.mk (α := TV) | apply Ge.mk (α := List SV) | apply Sg.mk | apply Sk.mk); · exact aCl) | ((first | apply Br.mk | apply Gd.mk) <;> (intro hb; first | exact aKl hb | (simp only [d1, d2, beq_iff_eq, bne_iff_ne, d3, d4, d5, d6, Int.not_lt, Int.not_le, ge_iff_le, gt_iff_lt, ne_eq, d7] at hb; first | (exfalso; omega) | skip) | skip)))); (all_goals (try (conv => whnf)))
  all_goals (refine fin_ro1 rfl (wsv_scal _) rfl ?_; simp only [mkRes]; congr 3; unfold mpg; split <;> omega)
def ld4 (n a : Nat) : Bool := decide (a % 4 = 0) && decide (a + 4 ≤ mpg n * 128)
theorem mpg_le (n : Nat) : mpg n ≤ 32 := by unfold mpg; split <;> omega
theorem mpg_len {n a : Nat} (h : ld4 n a = true) : a / 4 < n := by
  unfold ld4 mpg at h; simp at h; split at h <;> omega
set_option maxRecDepth 100000 in
theorem within4_fn (xs : List Nat) (n a : Nat) (hn : n < 4294967296) (ha : a < 4294967296) : Fn Try.prog 85 [.s (.sl 0 0 n), .s (.int .u32 a), .s (.int .i64 4)] [⟨false, 1, wsv xs⟩] (· = ⟨.a (.s (.bool (ld4 n a))), [], []⟩) := by
  have hm := mpg_le n
  refine fn_of_vc mixed tys_ok _ _ Try.func85 (by kernel_rfl) rfl Try.ntmps85 (by rw [Try.results85]) rfl ?_; dsimp only [argTm, argHl, Nat.zero_add, Nat.reduceAdd, List.length_nil, List.length_cons]
  (repeat' ((conv => whnf); first | (refine vcall_det (f := 93) (pages_fn xs n hn) [⟨0, 0⟩] [(0, ⟨false, 1, wsv xs⟩)] (by first | exact rfl | simp [renA, renS, renN]) ⟨rfl, trivial⟩ (⟨rfl, rowM_ro (wsv_scal _), trivial⟩) ⟨rfl, noUp⟩ ?_) | (with_reducible apply sd_draw; · kernel_rfl) | (apply Sd.mk; · exact aSd) | ((with_reducible apply Vl.mk (α := Int)); · exact aAr) | ((with_reducible first | apply Vl.mk (α := Bool) | apply Vl.mk (α := Nat) | apply Vl.mk (α := ByteArray) | apply Ge.mk (α := Row) | apply Ge.mk (α := SV) | apply Ge.mk (α := AV)); · exact rfl) | (refine And.intro rfl ?_) | ((with_reducible first | apply Vl.mk (α := List SV) | apply Vl.mk (α := Ef) | apply Vl.mk (α := TV) | apply Ge.mk (α := List SV) | apply Sg.mk | apply Sk.mk); · exact aCl) | ((first | apply Br.mk | apply Gd.mk) <;> (intro hb; first | exact aKl hb | (simp only [d1, d2, beq_iff_eq, bne_iff_ne, d3, d4, d5, d6, Int.not_lt, Int.not_le, ge_iff_le, gt_iff_lt, ne_eq, d7] at hb; first | (exfalso; omega) | skip) | skip)))); (all_goals (try (conv => whnf)))
  all_goals
    refine fin_ro1 rfl (wsv_scal _) rfl ?_
    simp only [mkRes]
    congr 3
    have hz : (decide (a % 4 = 0)) = decide ((a : Int) % 4 = 0) := by congr 1; apply propext; omega
    have hy : decide ((a : Int) + 4 ≤ (mpg n : Nat) * 128) = decide (a + 4 ≤ mpg n * 128) := by congr 1; apply propext; omega
    unfold ld4
    rw [hz, ← hy]
    simp only [hb, decide_true, decide_false, Bool.true_and, Bool.false_and]
theorem ldi (a : Nat) : 0 + ((a : Int) / 4).toNat * ty24.size = a / 4 := by
  show 0 + ((a : Int) / 4).toNat * 1 = _
  omega
set_option maxRecDepth 100000 in
theorem load4_fn (xs : List Nat) (n a : Nat) (hl : xs.length = n) (hn : n < 4294967296) (ha : a < 4294967296) : Fn Try.prog 65 [.s (.sl 0 0 n), .s (.int .u32 a), .s (.int .i64 4)] [⟨false, 1, wsv xs⟩] (· = ⟨.tup [.s (.int .u32 (if ld4 n a then xs.getD (a / 4) 0 else 0 : Nat)), .s (.bool (ld4 n a))], [], []⟩) := by
  refine fn_of_vc mixed tys_ok _ _ Try.func65 (by kernel_rfl) rfl Try.ntmps65 (by rw [Try.results65]) rfl ?_; dsimp only [argTm, argHl, Nat.zero_add, Nat.reduceAdd, List.length_nil, List.length_cons]
  (repeat' ((conv => whnf); first | (refine vcall_det (f := 85) (within4_fn xs n a hn ha) [⟨0, 0⟩] [(0, ⟨false, 1, wsv xs⟩)] (by first | exact rfl | simp [renA, renS, renN]) ⟨rfl, trivial⟩ (⟨rfl, rowM_ro (wsv_scal _), trivial⟩) ⟨rfl, noUp⟩ ?_)  |  (apply Sd.mk; · have := mpg_len hb; omega)  |  ((with_reducible apply Vl.mk (α := Nat)); · exact ldi a)  |  ((with_reducible apply Ge.mk (α := SV)); · exact wsv_get xs (a / 4) (by rw [hl]; exact mpg_len hb)) | (with_reducible apply sd_draw; · kernel_rfl) | (apply Sd.mk; · exact aSd) | ((with_reducible apply Vl.mk (α := Int)); · exact aAr) | ((with_reducible first | apply Vl.mk (α := Bool) | apply Vl.mk (α := Nat) | apply Vl.mk (α := ByteArray) | apply Ge.mk (α := Row) | apply Ge.mk (α := SV) | apply Ge.mk (α := AV)); · exact rfl) | (refine And.intro rfl ?_) | ((with_reducible first | apply Vl.mk (α := List SV) | apply Vl.mk (α := Ef) | apply Vl.mk (α := TV) | apply Ge.mk (α := List SV) | apply Sg.mk | apply Sk.mk); · exact aCl) | ((first | apply Br.mk | apply Gd.mk) <;> (intro hb; first | exact aKl hb | (simp only [d1, d2, beq_iff_eq, bne_iff_ne, d3, d4, d5, d6, Int.not_lt, Int.not_le, ge_iff_le, gt_iff_lt, ne_eq, d7] at hb; first | (exfalso; omega) | skip) | skip)))); (all_goals (try (conv => whnf)))
  all_goals
    refine fin_ro1 rfl (wsv_scal _) rfl ?_
    simp only [mkRes, *, if_true, if_false, Bool.false_eq_true]
    first | done | rfl
/-- A word loaded where it can be. -/
theorem load4_ok (xs : List Nat) (n a : Nat) (hl : xs.length = n) (hn : n < 4294967296) (ha : a < 4294967296) (h : ld4 n a = true) : Fn Try.prog 65 [.s (.sl 0 0 n), .s (.int .u32 a), .s (.int .i64 4)] [⟨false, 1, wsv xs⟩] (· = ⟨.tup [.s (.int .u32 (xs.getD (a / 4) 0 : Nat)), .s (.bool true)], [], []⟩) := by
  have := load4_fn xs n a hl hn ha
  rw [h] at this
  exact this
end Go.Proofs.Ytcaddlighhiepaa
