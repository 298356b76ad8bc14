/- Names of operations. Printed by mkmn.py. -/
import Derived.Test.YtppjiheebpabjaaMayA
namespace Go.Proofs.Ytppjiheebpabjaa
open Go Go.RowKit
set_option linter.unusedSimpArgs false
set_option linter.unusedVariables false

def mnA : List ByteArray := [⟨#[97, 100, 100]⟩, ⟨#[115, 117, 98]⟩, ⟨#[97, 110, 100]⟩, ⟨#[111, 114]⟩, ⟨#[120, 111, 114]⟩, ⟨#[115, 104, 108]⟩, ⟨#[115, 104, 114]⟩, ⟨#[115, 97, 114]⟩, ⟨#[109, 117, 108]⟩, ⟨#[100, 105, 118]⟩, ⟨#[114, 101, 109]⟩, ⟨#[115, 108, 116]⟩, ⟨#[115, 108, 116, 117]⟩]
def mnB : List ByteArray := [⟨#[97, 100, 100, 105]⟩, ⟨#[97, 110, 100, 105]⟩, ⟨#[111, 114, 105]⟩, ⟨#[120, 111, 114, 105]⟩, ⟨#[115, 104, 108, 105]⟩, ⟨#[115, 104, 114, 105]⟩, ⟨#[115, 97, 114, 105]⟩, ⟨#[115, 108, 116, 105]⟩, ⟨#[108, 117, 105]⟩]
def mnC : List ByteArray := [⟨#[108, 119]⟩, ⟨#[108, 98]⟩, ⟨#[108, 98, 117]⟩, ⟨#[115, 119]⟩, ⟨#[115, 98]⟩]
def mnD : List ByteArray := [⟨#[98, 101, 113]⟩, ⟨#[98, 110, 101]⟩, ⟨#[98, 108, 116]⟩, ⟨#[98, 103, 101]⟩, ⟨#[98, 108, 116, 117]⟩, ⟨#[98, 103, 101, 117]⟩]
def mnE : List ByteArray := [⟨#[101, 99, 97, 108, 108]⟩, ⟨#[101, 114, 101, 116]⟩, ⟨#[99, 115, 114, 114]⟩, ⟨#[99, 115, 114, 119]⟩, ⟨#[105, 110]⟩, ⟨#[111, 117, 116]⟩, ⟨#[119, 102, 105]⟩, ⟨#[102, 108, 117, 115, 104]⟩, ⟨#[104, 97, 108, 116]⟩]
def mnV (o : Int) : ByteArray :=
  if 1 ≤ o ∧ o ≤ 13 then mnA.getD (o - 1).toNat ⟨#[]⟩ else if 16 ≤ o ∧ o ≤ 24 then mnB.getD (o - 16).toNat ⟨#[]⟩ else if 32 ≤ o ∧ o ≤ 36 then mnC.getD (o - 32).toNat ⟨#[]⟩ else if 40 ≤ o ∧ o ≤ 45 then mnD.getD (o - 40).toNat ⟨#[]⟩ else if o = 48 then ⟨#[106, 97, 108]⟩ else if o = 49 then ⟨#[106, 97, 108, 114]⟩ else if 56 ≤ o ∧ o ≤ 64 then mnE.getD (o - 56).toNat ⟨#[]⟩ else ⟨#[]⟩
theorem strs_get (L : List ByteArray) (q : Nat) (h : q < L.length) : (L.map SV.str)[0 + q * 1]? = some (.str (L.getD q ⟨#[]⟩)) := by
  rw [Nat.zero_add, Nat.mul_one, List.getElem?_map, List.getElem?_eq_getElem h]; simp [List.getD, h]
theorem mn_size (L : List ByteArray) (hL : ∀ x ∈ L, x ≠ ⟨#[]⟩) (q : Nat) (h : q < L.length) : L.getD q ⟨#[]⟩ ≠ ⟨#[]⟩ := by
  have : L.getD q ⟨#[]⟩ = L[q] := by simp [List.getD, h]
  rw [this]; exact hL _ (List.getElem_mem h)
theorem mnA_ne : ∀ x ∈ mnA, x ≠ ⟨#[]⟩ := by decide
theorem mnB_ne : ∀ x ∈ mnB, x ≠ ⟨#[]⟩ := by decide
theorem mnC_ne : ∀ x ∈ mnC, x ≠ ⟨#[]⟩ := by decide
theorem mnD_ne : ∀ x ∈ mnD, x ≠ ⟨#[]⟩ := by decide
theorem mnE_ne : ∀ x ∈ mnE, x ≠ ⟨#[]⟩ := by decide
theorem mnV_ne (o : Int) (h : useOk o = true) : mnV o ≠ ⟨#[]⟩ := by
  rw [useOk_iff, decide_eq_true_eq] at h
  unfold mnV
  repeat' split
  · exact mn_size _ mnA_ne _ (by show _ < 13; omega)
  · exact mn_size _ mnB_ne _ (by show _ < 9; omega)
  · exact mn_size _ mnC_ne _ (by show _ < 5; omega)
  · exact mn_size _ mnD_ne _ (by show _ < 6; omega)
  · decide
  · decide
  · exact mn_size _ mnE_ne _ (by show _ < 9; omega)
  · exfalso; omega
theorem mnV_no (o : Int) (h : useOk o = false) : mnV o = ⟨#[]⟩ := by
  rw [useOk_iff, decide_eq_false_iff_not] at h
  unfold mnV
  repeat' (first | (rw [if_neg (by omega)]) | rfl)
set_option maxHeartbeats 1000000 in
set_option maxRecDepth 100000 in
theorem mn_fn (o : Int) : Fn Try.prog 42 [.s (.int .i64 o)] [] (· = ⟨.a (.s (.str (mnV o))), [], []⟩) := by
  have gA : 1 ≤ o → o ≤ 13 → (mnA.map SV.str)[0 + (o - 1).toNat * 1]? = some (.str (mnV o)) := fun h1 h2 => by
    have e : mnV o = mnA.getD (o - 1).toNat ⟨#[]⟩ := by
      unfold mnV
      repeat' (first | (rw [if_pos (by omega)]) | (rw [if_neg (by omega)]))
    rw [e]; exact strs_get mnA _ (by show _ < 13; omega)
  have gB : 16 ≤ o → o ≤ 24 → (mnB.map SV.str)[0 + (o - 16).toNat * 1]? = some (.str (mnV o)) := fun h1 h2 => by
    have e : mnV o = mnB.getD (o - 16).toNat ⟨#[]⟩ := by
      unfold mnV
      repeat' (first | (rw [if_pos (by omega)]) | (rw [if_neg (by omega)]))
    rw [e]; exact strs_get mnB _ (by show _ < 9; omega)
  have gC : 32 ≤ o → o ≤ 36 → (mnC.map SV.str)[0 + (o - 32).toNat * 1]? = some (.str (mnV o)) := fun h1 h2 => by
    have e : mnV o = mnC.getD (o - 32).toNat ⟨#[]⟩ := by
      unfold mnV
      repeat' (first | (rw [if_pos (by omega)]) | (rw [if_neg (by omega)]))
    rw [e]; exact strs_get mnC _ (by show _ < 5; omega)
  have gD : 40 ≤ o → o ≤ 45 → (mnD.map SV.str)[0 + (o - 40).toNat * 1]? = some (.str (mnV o)) := fun h1 h2 => by
    have e : mnV o = mnD.getD (o - 40).toNat ⟨#[]⟩ := by
      unfold mnV
      repeat' (first | (rw [if_pos (by omega)]) | (rw [if_neg (by omega)]))
    rw [e]; exact strs_get mnD _ (by show _ < 6; omega)
  have gE : 56 ≤ o → o ≤ 64 → (mnE.map SV.str)[0 + (o - 56).toNat * 1]? = some (.str (mnV o)) := fun h1 h2 => by
    have e : mnV o = mnE.getD (o - 56).toNat ⟨#[]⟩ := by
      unfold mnV
      repeat' (first | (rw [if_pos (by omega)]) | (rw [if_neg (by omega)]))
    rw [e]; exact strs_get mnE _ (by show _ < 9; omega)
  have h48 : o = 48 → mnV o = ⟨#[106, 97, 108]⟩ := fun h => by subst h; rfl
  have h49 : o = 49 → mnV o = ⟨#[106, 97, 108, 114]⟩ := fun h => by subst h; rfl
  have h0 : useOk o = false → mnV o = ⟨#[]⟩ := mnV_no o
  rw [useOk_iff, decide_eq_false_iff_not] at h0
  generalize mnV o = V at *
  refine fn_of_vc mixed tys_ok _ _ Try.func42 (by kernel_rfl) rfl Try.ntmps42 (by rw [Try.results42]) rfl ?_; dsimp only [argTm, argHl, Nat.zero_add, Nat.reduceAdd, List.length_nil, List.length_cons]
  (repeat' ((conv => whnf); first | ((with_reducible apply Ge.mk (α := SV)); · first | exact gA (by omega) (by omega) | exact gB (by omega) (by omega) | exact gC (by omega) (by omega) | exact gD (by omega) (by omega) | exact gE (by omega) (by omega)) | (with_reducible apply sd_draw; · kernel_rfl) | (apply Sd.mk; · first | exact rfl | trivial | omega | (repeat' apply And.intro) <;> first | exact rfl | exact Nat.le_of_ble_eq_true rfl | omega | decide) | ((with_reducible apply Vl.mk (α := Int)); · (first | (with_reducible exact bits_keep _ _ _ _) | ((rewrite [tdiv_pos]); (focus (first | exact wi64 (by omega) (by omega) | exact wu32 (by omega) (by omega) | exact wi32 (by omega) (by omega))); omega) | exact tmod_pos (by omega) | exact wi64 (by omega) (by omega) | exact wu32 (by omega) (by omega) | exact wu32' _ | exact wu8 (by omega) (by omega) | exact wu64 (by omega) (by omega) | exact wi32 (by omega) (by omega) | rfl)) | ((with_reducible first | apply Vl.mk (α := Bool) | apply Vl.mk (α := Nat) | apply Vl.mk (α := ByteArray) | apply Ge.mk (α := Row) | apply Ge.mk (α := SV) | apply Ge.mk (α := AV)); · exact rfl) | (refine And.intro rfl ?_) | ((with_reducible first | apply Vl.mk (α := List SV) | apply Vl.mk (α := Ef) | apply Vl.mk (α := TV) | apply Ge.mk (α := List SV) | apply Sg.mk | apply Sk.mk); · (first | exact setAll_eq rfl | exact sg_all _ rfl | exact sk_all _ rfl rfl | ((first | apply sg_fc | apply sk_fc | (apply fc_eq; (conv => arg 1; whnf); apply fc_some) | apply fc_eq); (repeat' (first | exact fc_ren (wsv_scal _) | exact fc_ren (by assumption) | ((conv => arg 1; whnf); first | exact fc_nil | apply fc_cons | exact fc_int | exact fc_bool | exact fc_n | exact fc_ns | exact fc_ptr | exact fc_sl | exact fc_str | exact fc_unk | exact fc_fn | apply fc_s | apply fc_agg | apply fc_ta | apply fc_tup | exact fc_an | apply fc_ac | exact fc_tu | exact fc_nat | exact fc_bo | exact fc_none | apply fc_some | apply fc_pair | apply fc_row | apply fc_ef))); (all_goals exact rfl)) | ((dsimp only [Res.ef, renT, renA, renS, renN, nwN, upN, renRow, List.map_cons, List.map_nil, List.length_cons, List.length_nil]); first | done | exact rfl) | (dsimp only [setAll, List.set_cons_zero, List.set_cons_succ, List.cons_append, List.nil_append]; exact rfl) | exact rfl)) | ((first | apply Br.mk | apply Gd.mk) <;> (intro hb; first | (exact absurd hb (by decide)) | exact Bool.noConfusion (hb.symm.trans (by assumption) : true = false) | exact Bool.noConfusion (hb.symm.trans (by assumption) : false = true) | (simp only [decide_eq_true_eq, decide_eq_false_iff_not, beq_iff_eq, bne_iff_ne, beq_eq_false_iff_ne, bne_eq_false_iff_eq, Bool.not_eq_true', Bool.not_eq_false', Int.not_lt, Int.not_le, ge_iff_le, gt_iff_lt, ne_eq, Classical.not_not] at hb; first | (exfalso; omega) | skip) | skip)))); (all_goals (try (conv => whnf)))
  all_goals first
    | exact fin_pure rfl rfl
    | (rw [h48 (by omega)]; exact fin_pure rfl rfl)
    | (rw [h49 (by omega)]; exact fin_pure rfl rfl)
    | (rw [h0 (by omega)]; exact fin_pure rfl rfl)
end Go.Proofs.Ytppjiheebpabjaa
