import Derived.Test.YtcaddlighhiepaaQFieA
namespace Go.Proofs.Ytcaddlighhiepaa
open Go Go.RowKit
set_option linter.unusedSimpArgs false
set_option linter.unusedVariables false
theorem fin_ro1 {r : Row} {σ : St} {x v : TV} (hs : scalT v = true) (hr : allScal r.cells = true) (ho : hpG σ.h 0 = some r) (e : x = v) : Fin [r] (· = ⟨v, [], []⟩) σ x := by
  subst e
  refine Fin.mk ⟨x, [], []⟩ [(0, some 0)] rfl (tvm_scal hs) ?_ rfl
  show HlS _ _ [] ([] ++ [(0, some r)])
  refine hls_row (rowmt_mk rfl ho rfl ?_ (svsm_scal hr)) hls_nil
  cases r.own <;> rfl
def mpg (n : Nat) : Nat := if n % 32 = 0 ∧ n ≤ 1024 then n / 32 else 0
def ld4 (n a : Nat) : Bool := decide (a % 4 = 0) && decide (a + 4 ≤ mpg n * 128)
theorem mpg_le (n : Nat) : mpg n ≤ 32 := by unfold mpg; split <;> omega
end Go.Proofs.Ytcaddlighhiepaa
