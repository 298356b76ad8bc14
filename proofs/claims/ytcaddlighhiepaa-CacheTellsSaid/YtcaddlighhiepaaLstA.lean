/- Lists: take and drop. -/
import Derived.Test.YtcaddlighhiepaaAbsS
namespace Go.Proofs.Ytcaddlighhiepaa
open Go Go.RowKit
set_option linter.unusedSimpArgs false
set_option linter.unusedVariables false

theorem drop_cons {α : Type} (t : List α) (i : Nat) (e : α) (h : t[i]? = some e) : t.drop i = e :: t.drop (i + 1) := by
  have hlt := (List.getElem?_eq_some_iff.1 h).1
  rw [List.drop_eq_getElem_cons hlt]
  congr 1
  exact (List.getElem?_eq_some_iff.1 h).2
theorem take_app {α : Type} (t : List α) (i : Nat) (e : α) (h : t[i]? = some e) : t.take i ++ [e] = t.take (i + 1) := by
  rw [List.take_add_one, h]; rfl
theorem take_at {α : Type} (t : List α) (i j : Nat) (h : j < i) : (t.take i)[j]? = t[j]? := by
  rw [List.getElem?_take, if_pos h]
end Go.Proofs.Ytcaddlighhiepaa
