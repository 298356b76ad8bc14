/- useless; rows of operations: reading and setting the j-th (general Fold, UNDER WAY). -/
import Derived.Test.YtpkbfpjkpiimiaaFldF
namespace Go.Proofs.Ytpkbfpjkpiimiaa
open Go Go.RowKit
set_option linter.unusedSimpArgs false
set_option linter.unusedVariables false

def useV (m m' : Mi) : Bool := if m.o = 24 then decide (m.a = 0 ∨ m'.o = 24 ∧ m'.a = m.a) else (decide (m.a = 0) && aluB m.o)
set_option maxHeartbeats 1000000 in
set_option maxRecDepth 100000 in
theorem uselessG_fn (o n o' n' : Int) (a b c k a' b' c' k' : Nat) : Fn Try.prog 50 [.agg (Mi.C ⟨o, a, b, c, k, n⟩), .agg (Mi.C ⟨o', a', b', c', k', n'⟩)] [] (· = ⟨.a (.s (.bool (useV ⟨o, a, b, c, k, n⟩ ⟨o', a', b', c', k', n'⟩))), [], []⟩) := by
  have har := arithG_fn o
  unfold useV
  dsimp only
  generalize aluB o = B at *
  refine fn_of_vc mixed tys_ok _ _ Try.func50 (by kernel_rfl) rfl Try.ntmps50 (by rw [Try.results50]) rfl ?_; dsimp only [argTm, argHl, Nat.zero_add, Nat.reduceAdd, List.length_nil, List.length_cons]
  dsimp only [Mi.C]
  (repeat' ((conv => whnf); first | (refine vcall_pure (f := 34) (har) rfl ?_) | (with_reducible apply sd_draw; · kernel_rfl) | (apply Sd.mk; · first | exact rfl | trivial | omega | (repeat' apply And.intro) <;> first | exact rfl | exact Nat.le_of_ble_eq_true rfl | omega | decide) | ((with_reducible apply Vl.mk (α := Int)); · (first | (with_reducible exact bits_keep _ _ _ _) | ((rewrite [tdiv_pos]); (focus (first | exact wi64 (by omega) (by omega) | exact wu32 (by omega) (by omega) | exact wi32 (by omega) (by omega))); omega) | exact tmod_pos (by omega) | exact wi64 (by omega) (by omega) | exact wu32 (by omega) (by omega) | exact wu32' _ | exact wu8 (by omega) (by omega) | exact wu64 (by omega) (by omega) | exact wi32 (by omega) (by omega) | rfl)) | ((with_reducible first | apply Vl.mk (α := Bool) | apply Vl.mk (α := Nat) | apply Vl.mk (α := ByteArray) | apply Ge.mk (α := Row) | apply Ge.mk (α := SV) | apply Ge.mk (α := AV)); · exact rfl) | (refine And.intro rfl ?_) | ((with_reducible first | apply Vl.mk (α := List SV) | apply Vl.mk (α := Ef) | apply Vl.mk (α := TV) | apply Ge.mk (α := List SV) | apply Sg.mk | apply Sk.mk); · (first | exact setAll_eq rfl | exact sg_all _ rfl | exact sk_all _ rfl rfl | ((first | apply sg_fc | apply sk_fc | (apply fc_eq; (conv => arg 1; whnf); apply fc_some) | apply fc_eq); (repeat' (first | exact fc_ren (wsv_scal _) | exact fc_ren (by assumption) | ((conv => arg 1; whnf); first | exact fc_nil | apply fc_cons | exact fc_int | exact fc_bool | exact fc_n | exact fc_ns | exact fc_ptr | exact fc_sl | exact fc_str | exact fc_unk | exact fc_fn | apply fc_s | apply fc_agg | apply fc_ta | apply fc_tup | exact fc_an | apply fc_ac | exact fc_tu | exact fc_nat | exact fc_bo | exact fc_none | apply fc_some | apply fc_pair | apply fc_row | apply fc_ef))); (all_goals exact rfl)) | ((dsimp only [Res.ef, renT, renA, renS, renN, nwN, upN, renRow, List.map_cons, List.map_nil, List.length_cons, List.length_nil]); first | done | exact rfl) | (dsimp only [setAll, List.set_cons_zero, List.set_cons_succ, List.cons_append, List.nil_append]; exact rfl) | exact rfl)) | ((first | apply Br.mk | apply Gd.mk) <;> (intro hb; first | (exact absurd hb (by decide)) | exact Bool.noConfusion (hb.symm.trans (by assumption) : true = false) | exact Bool.noConfusion (hb.symm.trans (by assumption) : false = true) | (simp only [decide_eq_true_eq, decide_eq_false_iff_not, beq_iff_eq, bne_iff_ne, beq_eq_false_iff_ne, bne_eq_false_iff_eq, Bool.not_eq_true', Bool.not_eq_false', Int.not_lt, Int.not_le, ge_iff_le, gt_iff_lt, ne_eq, Classical.not_not] at hb; first | (exfalso; omega) | skip) | skip)))); (all_goals (try (conv => whnf)))
  all_goals
    apply fin_pure
    (focus rfl)
    simp only [mkRes]
    congr 3
    first
      | (rw [if_pos (by omega)]; rw [Bool.eq_iff_iff]; simp only [decide_eq_true_eq, beq_iff_eq, true_iff, false_iff, Bool.false_eq_true]; omega)
      | (rw [if_neg (by omega), decide_eq_true (by omega)]; rfl)
      | (rw [if_neg (by omega), decide_eq_false (by omega)]; rfl)
def mcs : List Mi → List SV
  | [] => []
  | m :: l => m.C ++ mcs l
theorem mcs_len : ∀ l : List Mi, (mcs l).length = l.length * 6
  | [] => rfl
  | m :: l => by show (m.C ++ mcs l).length = _; rw [List.length_append, mcs_len l]; simp [Mi.C]; omega
theorem mcs_scal : ∀ l : List Mi, allScal (mcs l) = true
  | [] => rfl
  | m :: l => mcs_scal l
theorem mcs_known : ∀ l : List Mi, allKnown (mcs l) = true
  | [] => rfl
  | m :: l => mcs_known l
theorem mcs_app : ∀ l l' : List Mi, mcs (l ++ l') = mcs l ++ mcs l'
  | [], l' => rfl
  | m :: l, l' => by show m.C ++ mcs (l ++ l') = (m.C ++ mcs l) ++ mcs l'; rw [mcs_app l l', List.append_assoc]
/-- The cells of the j-th. -/
theorem mcs_at : ∀ (l : List Mi) (j : Nat) (m : Mi), l[j]? = some m → ∀ i, i < 6 → (mcs l)[j * 6 + i]? = (m.C)[i]?
  | m' :: l, 0, m, h, i, hi => by
    injection h with h; subst h
    show (m'.C ++ mcs l)[0 * 6 + i]? = _
    rw [Nat.zero_mul, Nat.zero_add, List.getElem?_append_left (by simp [Mi.C]; omega)]
  | m' :: l, j + 1, m, h, i, hi => by
    show (m'.C ++ mcs l)[(j + 1) * 6 + i]? = _
    rw [List.getElem?_append_right (by simp [Mi.C]; omega)]
    have : (j + 1) * 6 + i - (m'.C).length = j * 6 + i := by simp [Mi.C]; omega
    rw [this]
    exact mcs_at l j m (by simpa using h) i hi
theorem mcs_seg (l : List Mi) (j : Nat) (m : Mi) (h : l[j]? = some m) : (m.C).length = 6 ∧ ∀ (i : Nat) s, (m.C)[i]? = some s → (mcs l)[j * 6 + i]? = some s :=
  ⟨rfl, fun i s hs => by
    have hi : i < 6 := (List.getElem?_eq_some_iff.1 hs).1
    rw [mcs_at l j m h i hi]; exact hs⟩
theorem mcs_set (l : List Mi) (j : Nat) (m : Mi) (hj : j < l.length) : setAll (mcs l) (j * 6) m.C = mcs (l.set j m) := by
  apply List.ext_getElem?
  intro i
  rw [setAll_get _ _ _ _ (by rw [mcs_len]; show j * 6 + 6 ≤ _; omega)]
  have hlen : (m.C).length = 6 := rfl
  by_cases h : i / 6 < l.length
  · have e : i = i / 6 * 6 + i % 6 := by omega
    have hm : i % 6 < 6 := Nat.mod_lt _ (by omega)
    by_cases hij : i / 6 = j
    · rw [if_pos (by omega), e, mcs_at (l.set j m) (i / 6) m (by rw [hij, List.getElem?_set_self hj]) _ hm]
      congr 1; omega
    · have hl := List.getElem?_eq_getElem h
      rw [if_neg (by omega), e, mcs_at l (i / 6) _ hl _ hm, mcs_at (l.set j m) (i / 6) _ (by rw [List.getElem?_set_ne (by omega)]; exact hl) _ hm]
  · rw [if_neg (by omega), List.getElem?_eq_none (by rw [mcs_len]; omega), List.getElem?_eq_none (by rw [mcs_len, List.length_set]; omega)]
end Go.Proofs.Ytpkbfpjkpiimiaa
