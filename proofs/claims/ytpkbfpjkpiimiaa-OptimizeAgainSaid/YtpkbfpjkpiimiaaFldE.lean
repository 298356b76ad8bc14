/- What is known behind an operation (general Fold, UNDER WAY). -/
import Derived.Test.YtpkbfpjkpiimiaaFldB
namespace Go.Proofs.Ytpkbfpjkpiimiaa
open Go Go.RowKit
set_option linter.unusedSimpArgs false
set_option linter.unusedVariables false

theorem kn_set_is (is : List Bool) (v : List Nat) (r : Nat) (x : Bool) (hi : is.length = 16) (hv : v.length = 16) (hr : r < 16) : setAll (knC is v) (0 + 0 + ((r : Nat) : Int).toNat * ty4.size) [.bool x] = knC (is.set r x) v := by
  have e : 0 + 0 + ((r : Nat) : Int).toNat * ty4.size = r := by show 0 + 0 + ((r : Nat) : Int).toNat * 1 = r; omega
  rw [e]
  apply List.ext_getElem?
  intro i
  rw [setAll_get _ _ _ _ (by unfold knC bsv; simp [hi, hv]; omega)]
  unfold knC bsv
  simp only [List.length_cons, List.length_nil, Nat.zero_add]
  by_cases h : i = r
  · subst h
    rw [if_pos (by omega), List.getElem?_append_left (by simp [hi, hr]), List.getElem?_map, List.getElem?_set_self (by omega)]
    simp
  · rw [if_neg (by omega)]
    by_cases h16 : i < 16
    · rw [List.getElem?_append_left (by simp [hi, h16]), List.getElem?_append_left (by simp [hi, h16]), List.getElem?_map, List.getElem?_map, List.getElem?_set_ne (by omega)]
    · rw [List.getElem?_append_right (by simp [hi]; omega), List.getElem?_append_right (by simp [hi]; omega)]
      simp
theorem kn_set_val (is : List Bool) (v : List Nat) (r w : Nat) (hi : is.length = 16) (hv : v.length = 16) (hr : r < 16) : setAll (knC is v) (0 + 16 + ((r : Nat) : Int).toNat * ty22.size) [.int .u32 w] = knC is (v.set r w) := by
  have e : 0 + 16 + ((r : Nat) : Int).toNat * ty22.size = 16 + r := by show 0 + 16 + ((r : Nat) : Int).toNat * 1 = _; omega
  rw [e]
  apply List.ext_getElem?
  intro i
  rw [setAll_get _ _ _ _ (by unfold knC bsv; simp [hi, hv]; omega)]
  unfold knC bsv wsv
  simp only [List.length_cons, List.length_nil, Nat.zero_add]
  by_cases h : i = 16 + r
  · subst h
    rw [if_pos (by omega), List.getElem?_append_right (by simp [hi]), List.getElem?_map]
    simp [hi, hv, hr]
  · rw [if_neg (by omega)]
    by_cases h16 : i < 16
    · rw [List.getElem?_append_left (by simp [hi, h16]), List.getElem?_append_left (by simp [hi, h16])]
    · rw [List.getElem?_append_right (by simp [hi]; omega), List.getElem?_append_right (by simp [hi]; omega), List.getElem?_map, List.getElem?_map, List.getElem?_set_ne (by simp [hi]; omega)]
/-- What is known behind an operation. -/
def aftI (o : Int) (a : Nat) (is : List Bool) : List Bool := if wrtB o = false ∨ a = 0 then is else is.set a (decide (o = 24))
def aftV (o : Int) (a k : Nat) (v : List Nat) : List Nat := if wrtB o = false ∨ a = 0 then v else v.set a (if o = 24 then k else 0)
theorem set_twice {α : Type} (l : List α) (i : Nat) (x y : α) : (l.set i x).set i y = l.set i y := List.set_set ..
set_option maxHeartbeats 1000000 in
set_option maxRecDepth 100000 in
theorem afterG_fn (o n : Int) (a b c k : Nat) (is : List Bool) (v : List Nat) (hi : is.length = 16) (hv : v.length = 16) (ha : a < 16) :
    Fn Try.prog 28 [.agg (knC is v), .agg (Mi.C ⟨o, a, b, c, k, n⟩)] [] (· = ⟨.a (.agg (knC (aftI o a is) (aftV o a k v))), [], []⟩) := by
  have hwr := writesG_fn o
  have hkn := kn_known is v
  have kl : ∀ (i' : List Bool) (v' : List Nat), i'.length = 16 → v'.length = 16 → (knC i' v').length = 32 := fun i' v' h1 h2 => by unfold knC bsv; simp [h1, h2]
  have ks : ∀ (i' : List Bool) (v' : List Nat), allScal (knC i' v') = true := fun i' v' => by
    unfold knC
    refine allScal_append ?_ (wsv_scal v')
    induction i' with
    | nil => rfl
    | cons x l ih => exact ih
  have hl := kl is v hi hv
  by_cases hc : wrtB o = false ∨ a = 0
  · have e1 : aftI o a is = is := if_pos hc
    have e2 : aftV o a k v = v := if_pos hc
    have hs := ks is v
    rw [e1, e2]
    generalize knC is v = KN at *
    have hsa : ∀ L : List SV, L.length = 32 → setAll L 0 KN = KN := fun L hL => setAll_all (by rw [hL, hl])
    rcases hc with hc | hc
    · rw [hc] at hwr
      refine fn_of_vc mixed tys_ok _ _ Try.func28 (by kernel_rfl) rfl Try.ntmps28 (by rw [Try.results28]) rfl ?_; dsimp only [argTm, argHl, Nat.zero_add, Nat.reduceAdd, List.length_nil, List.length_cons]
      dsimp only [Mi.C]
      (repeat' ((conv => whnf); first | (refine vcall_pure (f := 49) (hwr) rfl ?_)  |  (apply Sd.mk; · first | exact hkn | exact ⟨hl, hkn, rfl, by show 0 + KN.length ≤ 32; omega⟩)  |  ((with_reducible apply Vl.mk (α := List SV)); · (with_reducible refine hsa _ ?_); (focus exact rfl))  |  (apply Sg.mk; · exact sg_all KN hl) | (with_reducible apply sd_draw; · kernel_rfl) | (apply Sd.mk; · first | exact rfl | trivial | omega | (repeat' apply And.intro) <;> first | exact rfl | exact Nat.le_of_ble_eq_true rfl | omega | decide) | ((with_reducible apply Vl.mk (α := Int)); · (first | (with_reducible exact bits_keep _ _ _ _) | ((rewrite [tdiv_pos]); (focus (first | exact wi64 (by omega) (by omega) | exact wu32 (by omega) (by omega) | exact wi32 (by omega) (by omega))); omega) | exact tmod_pos (by omega) | exact wi64 (by omega) (by omega) | exact wu32 (by omega) (by omega) | exact wu32' _ | exact wu8 (by omega) (by omega) | exact wu64 (by omega) (by omega) | exact wi32 (by omega) (by omega) | rfl)) | ((with_reducible first | apply Vl.mk (α := Bool) | apply Vl.mk (α := Nat) | apply Vl.mk (α := ByteArray) | apply Ge.mk (α := Row) | apply Ge.mk (α := SV) | apply Ge.mk (α := AV)); · exact rfl) | (refine And.intro rfl ?_) | ((with_reducible first | apply Vl.mk (α := List SV) | apply Vl.mk (α := Ef) | apply Vl.mk (α := TV) | apply Ge.mk (α := List SV) | apply Sg.mk | apply Sk.mk); · (first | exact setAll_eq rfl | exact sg_all _ rfl | exact sk_all _ rfl rfl | ((first | apply sg_fc | apply sk_fc | (apply fc_eq; (conv => arg 1; whnf); apply fc_some) | apply fc_eq); (repeat' (first | exact fc_ren (wsv_scal _) | exact fc_ren (by assumption) | ((conv => arg 1; whnf); first | exact fc_nil | apply fc_cons | exact fc_int | exact fc_bool | exact fc_n | exact fc_ns | exact fc_ptr | exact fc_sl | exact fc_str | exact fc_unk | exact fc_fn | apply fc_s | apply fc_agg | apply fc_ta | apply fc_tup | exact fc_an | apply fc_ac | exact fc_tu | exact fc_nat | exact fc_bo | exact fc_none | apply fc_some | apply fc_pair | apply fc_row | apply fc_ef))); (all_goals exact rfl)) | ((dsimp only [Res.ef, renT, renA, renS, renN, nwN, upN, renRow, List.map_cons, List.map_nil, List.length_cons, List.length_nil]); first | done | exact rfl) | (dsimp only [setAll, List.set_cons_zero, List.set_cons_succ, List.cons_append, List.nil_append]; exact rfl) | exact rfl)) | ((first | apply Br.mk | apply Gd.mk) <;> (intro hb; first | (exact absurd hb (by decide)) | exact Bool.noConfusion (hb.symm.trans (by assumption) : true = false) | exact Bool.noConfusion (hb.symm.trans (by assumption) : false = true) | (simp only [decide_eq_true_eq, decide_eq_false_iff_not, beq_iff_eq, bne_iff_ne, beq_eq_false_iff_ne, bne_eq_false_iff_eq, Bool.not_eq_true', Bool.not_eq_false', Int.not_lt, Int.not_le, ge_iff_le, gt_iff_lt, ne_eq, Classical.not_not] at hb; first | (exfalso; omega) | skip) | skip)))); (all_goals (try (conv => whnf)))
      all_goals first | exact fin_pure hs rfl | trace_state
    · subst hc
      generalize wrtB o = bw at *
      refine fn_of_vc mixed tys_ok _ _ Try.func28 (by kernel_rfl) rfl Try.ntmps28 (by rw [Try.results28]) rfl ?_; dsimp only [argTm, argHl, Nat.zero_add, Nat.reduceAdd, List.length_nil, List.length_cons]
      dsimp only [Mi.C]
      (repeat' ((conv => whnf); first | (refine vcall_pure (f := 49) (hwr) rfl ?_)  |  (apply Sd.mk; · first | exact hkn | exact ⟨hl, hkn, rfl, by show 0 + KN.length ≤ 32; omega⟩)  |  ((with_reducible apply Vl.mk (α := List SV)); · (with_reducible refine hsa _ ?_); (focus exact rfl))  |  (apply Sg.mk; · exact sg_all KN hl) | (with_reducible apply sd_draw; · kernel_rfl) | (apply Sd.mk; · first | exact rfl | trivial | omega | (repeat' apply And.intro) <;> first | exact rfl | exact Nat.le_of_ble_eq_true rfl | omega | decide) | ((with_reducible apply Vl.mk (α := Int)); · (first | (with_reducible exact bits_keep _ _ _ _) | ((rewrite [tdiv_pos]); (focus (first | exact wi64 (by omega) (by omega) | exact wu32 (by omega) (by omega) | exact wi32 (by omega) (by omega))); omega) | exact tmod_pos (by omega) | exact wi64 (by omega) (by omega) | exact wu32 (by omega) (by omega) | exact wu32' _ | exact wu8 (by omega) (by omega) | exact wu64 (by omega) (by omega) | exact wi32 (by omega) (by omega) | rfl)) | ((with_reducible first | apply Vl.mk (α := Bool) | apply Vl.mk (α := Nat) | apply Vl.mk (α := ByteArray) | apply Ge.mk (α := Row) | apply Ge.mk (α := SV) | apply Ge.mk (α := AV)); · exact rfl) | (refine And.intro rfl ?_) | ((with_reducible first | apply Vl.mk (α := List SV) | apply Vl.mk (α := Ef) | apply Vl.mk (α := TV) | apply Ge.mk (α := List SV) | apply Sg.mk | apply Sk.mk); · (first | exact setAll_eq rfl | exact sg_all _ rfl | exact sk_all _ rfl rfl | ((first | apply sg_fc | apply sk_fc | (apply fc_eq; (conv => arg 1; whnf); apply fc_some) | apply fc_eq); (repeat' (first | exact fc_ren (wsv_scal _) | exact fc_ren (by assumption) | ((conv => arg 1; whnf); first | exact fc_nil | apply fc_cons | exact fc_int | exact fc_bool | exact fc_n | exact fc_ns | exact fc_ptr | exact fc_sl | exact fc_str | exact fc_unk | exact fc_fn | apply fc_s | apply fc_agg | apply fc_ta | apply fc_tup | exact fc_an | apply fc_ac | exact fc_tu | exact fc_nat | exact fc_bo | exact fc_none | apply fc_some | apply fc_pair | apply fc_row | apply fc_ef))); (all_goals exact rfl)) | ((dsimp only [Res.ef, renT, renA, renS, renN, nwN, upN, renRow, List.map_cons, List.map_nil, List.length_cons, List.length_nil]); first | done | exact rfl) | (dsimp only [setAll, List.set_cons_zero, List.set_cons_succ, List.cons_append, List.nil_append]; exact rfl) | exact rfl)) | ((first | apply Br.mk | apply Gd.mk) <;> (intro hb; first | (exact absurd hb (by decide)) | exact Bool.noConfusion (hb.symm.trans (by assumption) : true = false) | exact Bool.noConfusion (hb.symm.trans (by assumption) : false = true) | (simp only [decide_eq_true_eq, decide_eq_false_iff_not, beq_iff_eq, bne_iff_ne, beq_eq_false_iff_ne, bne_eq_false_iff_eq, Bool.not_eq_true', Bool.not_eq_false', Int.not_lt, Int.not_le, ge_iff_le, gt_iff_lt, ne_eq, Classical.not_not] at hb; first | (exfalso; omega) | skip) | skip)))); (all_goals (try (conv => whnf)))
      all_goals first | exact fin_pure hs rfl | trace_state
  · have hw1 : wrtB o = true := by
      cases e : wrtB o with
      | true => rfl
      | false => exact absurd (.inl e) hc
    have ha0 : a ≠ 0 := fun e => hc (.inr e)
    rw [hw1] at hwr
    have e1 : aftI o a is = is.set a (decide (o = 24)) := if_neg hc
    have e2 : aftV o a k v = v.set a (if o = 24 then k else 0) := if_neg hc
    rw [e1, e2]
    have s1 := kn_set_is is v a false hi hv ha
    have s2 := kn_set_val (is.set a false) v a 0 (by simpa using hi) hv ha
    have s3 := kn_set_is (is.set a false) (v.set a 0) a true (by simpa using hi) (by simpa using hv) ha
    have s4 := kn_set_val ((is.set a false).set a true) (v.set a 0) a k (by simpa using hi) (by simpa using hv) ha
    rw [set_twice] at s3 s4
    rw [set_twice] at s4
    have l1 := kl (is.set a false) v (by simpa using hi) hv
    have l2 := kl (is.set a false) (v.set a 0) (by simpa using hi) (by simpa using hv)
    have l3 := kl (is.set a true) (v.set a 0) (by simpa using hi) (by simpa using hv)
    have l4 := kl (is.set a true) (v.set a k) (by simpa using hi) (by simpa using hv)
    have z2 := ks (is.set a false) (v.set a 0)
    have z4 := ks (is.set a true) (v.set a k)
    have n2 := kn_known (is.set a false) (v.set a 0)
    have n4 := kn_known (is.set a true) (v.set a k)
    by_cases h24 : o = 24
    · rw [if_pos h24, decide_eq_true h24]
      generalize knC is v = KN at *
      generalize knC (is.set a false) v = K1 at *
      generalize knC (is.set a false) (v.set a 0) = K2 at *
      generalize knC (is.set a true) (v.set a 0) = K3 at *
      generalize knC (is.set a true) (v.set a k) = K4 at *
      have s1' : setAll KN (0 + 0 + ((a : Nat) : Int).toNat * ty4.size) [absS (Value.bool false)] = K1 := s1
      have s2' : setAll K1 (0 + 16 + ((a : Nat) : Int).toNat * ty22.size) [absS (Value.int IntKind.u32 0)] = K2 := s2
      have s3' : setAll K2 (0 + 0 + ((a : Nat) : Int).toNat * ty4.size) [absS (Value.bool true)] = K3 := s3
      have hsa : ∀ L : List SV, L.length = 32 → setAll L 0 K4 = K4 := fun L hL => setAll_all (by rw [hL, l4])
      refine fn_of_vc mixed tys_ok _ _ Try.func28 (by kernel_rfl) rfl Try.ntmps28 (by rw [Try.results28]) rfl ?_; dsimp only [argTm, argHl, Nat.zero_add, Nat.reduceAdd, List.length_nil, List.length_cons]
      dsimp only [Mi.C]
      (repeat' ((conv => whnf); first | (refine vcall_pure (f := 49) (hwr) rfl ?_)  |  (apply Sd.mk; · first | exact hkn | exact n4 | exact ⟨l4, n4, rfl, by show 0 + K4.length ≤ 32; omega⟩ | (refine ⟨rfl, rfl, rfl, ?_⟩; first | (show 0 + 0 + ((a : Nat) : Int).toNat * 1 + 1 ≤ KN.length; omega) | (show 0 + 16 + ((a : Nat) : Int).toNat * 1 + 1 ≤ K1.length; omega) | (show 0 + 0 + ((a : Nat) : Int).toNat * 1 + 1 ≤ K2.length; omega) | (show 0 + 16 + ((a : Nat) : Int).toNat * 1 + 1 ≤ K3.length; omega)))  |  ((with_reducible apply Vl.mk (α := List SV)); · first | (with_reducible first | exact s1' | exact s2' | exact s3' | exact s4) | ((with_reducible refine hsa _ ?_); (focus exact rfl)))  |  (apply Sg.mk; · exact sg_all K4 l4) | (with_reducible apply sd_draw; · kernel_rfl) | (apply Sd.mk; · first | exact rfl | trivial | omega | (repeat' apply And.intro) <;> first | exact rfl | exact Nat.le_of_ble_eq_true rfl | omega | decide) | ((with_reducible apply Vl.mk (α := Int)); · (first | (with_reducible exact bits_keep _ _ _ _) | ((rewrite [tdiv_pos]); (focus (first | exact wi64 (by omega) (by omega) | exact wu32 (by omega) (by omega) | exact wi32 (by omega) (by omega))); omega) | exact tmod_pos (by omega) | exact wi64 (by omega) (by omega) | exact wu32 (by omega) (by omega) | exact wu32' _ | exact wu8 (by omega) (by omega) | exact wu64 (by omega) (by omega) | exact wi32 (by omega) (by omega) | rfl)) | ((with_reducible first | apply Vl.mk (α := Bool) | apply Vl.mk (α := Nat) | apply Vl.mk (α := ByteArray) | apply Ge.mk (α := Row) | apply Ge.mk (α := SV) | apply Ge.mk (α := AV)); · exact rfl) | (refine And.intro rfl ?_) | ((with_reducible first | apply Vl.mk (α := List SV) | apply Vl.mk (α := Ef) | apply Vl.mk (α := TV) | apply Ge.mk (α := List SV) | apply Sg.mk | apply Sk.mk); · (first | exact setAll_eq rfl | exact sg_all _ rfl | exact sk_all _ rfl rfl | ((first | apply sg_fc | apply sk_fc | (apply fc_eq; (conv => arg 1; whnf); apply fc_some) | apply fc_eq); (repeat' (first | exact fc_ren (wsv_scal _) | exact fc_ren (by assumption) | ((conv => arg 1; whnf); first | exact fc_nil | apply fc_cons | exact fc_int | exact fc_bool | exact fc_n | exact fc_ns | exact fc_ptr | exact fc_sl | exact fc_str | exact fc_unk | exact fc_fn | apply fc_s | apply fc_agg | apply fc_ta | apply fc_tup | exact fc_an | apply fc_ac | exact fc_tu | exact fc_nat | exact fc_bo | exact fc_none | apply fc_some | apply fc_pair | apply fc_row | apply fc_ef))); (all_goals exact rfl)) | ((dsimp only [Res.ef, renT, renA, renS, renN, nwN, upN, renRow, List.map_cons, List.map_nil, List.length_cons, List.length_nil]); first | done | exact rfl) | (dsimp only [setAll, List.set_cons_zero, List.set_cons_succ, List.cons_append, List.nil_append]; exact rfl) | exact rfl)) | ((first | apply Br.mk | apply Gd.mk) <;> (intro hb; first | (exact absurd hb (by decide)) | exact Bool.noConfusion (hb.symm.trans (by assumption) : true = false) | exact Bool.noConfusion (hb.symm.trans (by assumption) : false = true) | (simp only [decide_eq_true_eq, decide_eq_false_iff_not, beq_iff_eq, bne_iff_ne, beq_eq_false_iff_ne, bne_eq_false_iff_eq, Bool.not_eq_true', Bool.not_eq_false', Int.not_lt, Int.not_le, ge_iff_le, gt_iff_lt, ne_eq, Classical.not_not] at hb; first | (exfalso; omega) | skip) | skip)))); (all_goals (try (conv => whnf)))
      all_goals first | exact fin_pure z4 rfl | trace_state
    · rw [if_neg h24, decide_eq_false h24]
      generalize knC is v = KN at *
      generalize knC (is.set a false) v = K1 at *
      generalize knC (is.set a false) (v.set a 0) = K2 at *
      have s1' : setAll KN (0 + 0 + ((a : Nat) : Int).toNat * ty4.size) [absS (Value.bool false)] = K1 := s1
      have s2' : setAll K1 (0 + 16 + ((a : Nat) : Int).toNat * ty22.size) [absS (Value.int IntKind.u32 0)] = K2 := s2
      have hsa : ∀ L : List SV, L.length = 32 → setAll L 0 K2 = K2 := fun L hL => setAll_all (by rw [hL, l2])
      refine fn_of_vc mixed tys_ok _ _ Try.func28 (by kernel_rfl) rfl Try.ntmps28 (by rw [Try.results28]) rfl ?_; dsimp only [argTm, argHl, Nat.zero_add, Nat.reduceAdd, List.length_nil, List.length_cons]
      dsimp only [Mi.C]
      (repeat' ((conv => whnf); first | (refine vcall_pure (f := 49) (hwr) rfl ?_)  |  (apply Sd.mk; · first | exact hkn | exact n2 | exact ⟨l2, n2, rfl, by show 0 + K2.length ≤ 32; omega⟩ | (refine ⟨rfl, rfl, rfl, ?_⟩; first | (show 0 + 0 + ((a : Nat) : Int).toNat * 1 + 1 ≤ KN.length; omega) | (show 0 + 16 + ((a : Nat) : Int).toNat * 1 + 1 ≤ K1.length; omega)))  |  ((with_reducible apply Vl.mk (α := List SV)); · first | (with_reducible first | exact s1' | exact s2') | ((with_reducible refine hsa _ ?_); (focus exact rfl)))  |  (apply Sg.mk; · exact sg_all K2 l2) | (with_reducible apply sd_draw; · kernel_rfl) | (apply Sd.mk; · first | exact rfl | trivial | omega | (repeat' apply And.intro) <;> first | exact rfl | exact Nat.le_of_ble_eq_true rfl | omega | decide) | ((with_reducible apply Vl.mk (α := Int)); · (first | (with_reducible exact bits_keep _ _ _ _) | ((rewrite [tdiv_pos]); (focus (first | exact wi64 (by omega) (by omega) | exact wu32 (by omega) (by omega) | exact wi32 (by omega) (by omega))); omega) | exact tmod_pos (by omega) | exact wi64 (by omega) (by omega) | exact wu32 (by omega) (by omega) | exact wu32' _ | exact wu8 (by omega) (by omega) | exact wu64 (by omega) (by omega) | exact wi32 (by omega) (by omega) | rfl)) | ((with_reducible first | apply Vl.mk (α := Bool) | apply Vl.mk (α := Nat) | apply Vl.mk (α := ByteArray) | apply Ge.mk (α := Row) | apply Ge.mk (α := SV) | apply Ge.mk (α := AV)); · exact rfl) | (refine And.intro rfl ?_) | ((with_reducible first | apply Vl.mk (α := List SV) | apply Vl.mk (α := Ef) | apply Vl.mk (α := TV) | apply Ge.mk (α := List SV) | apply Sg.mk | apply Sk.mk); · (first | exact setAll_eq rfl | exact sg_all _ rfl | exact sk_all _ rfl rfl | ((first | apply sg_fc | apply sk_fc | (apply fc_eq; (conv => arg 1; whnf); apply fc_some) | apply fc_eq); (repeat' (first | exact fc_ren (wsv_scal _) | exact fc_ren (by assumption) | ((conv => arg 1; whnf); first | exact fc_nil | apply fc_cons | exact fc_int | exact fc_bool | exact fc_n | exact fc_ns | exact fc_ptr | exact fc_sl | exact fc_str | exact fc_unk | exact fc_fn | apply fc_s | apply fc_agg | apply fc_ta | apply fc_tup | exact fc_an | apply fc_ac | exact fc_tu | exact fc_nat | exact fc_bo | exact fc_none | apply fc_some | apply fc_pair | apply fc_row | apply fc_ef))); (all_goals exact rfl)) | ((dsimp only [Res.ef, renT, renA, renS, renN, nwN, upN, renRow, List.map_cons, List.map_nil, List.length_cons, List.length_nil]); first | done | exact rfl) | (dsimp only [setAll, List.set_cons_zero, List.set_cons_succ, List.cons_append, List.nil_append]; exact rfl) | exact rfl)) | ((first | apply Br.mk | apply Gd.mk) <;> (intro hb; first | (exact absurd hb (by decide)) | exact Bool.noConfusion (hb.symm.trans (by assumption) : true = false) | exact Bool.noConfusion (hb.symm.trans (by assumption) : false = true) | (simp only [decide_eq_true_eq, decide_eq_false_iff_not, beq_iff_eq, bne_iff_ne, beq_eq_false_iff_ne, bne_eq_false_iff_eq, Bool.not_eq_true', Bool.not_eq_false', Int.not_lt, Int.not_le, ge_iff_le, gt_iff_lt, ne_eq, Classical.not_not] at hb; first | (exfalso; omega) | skip) | skip)))); (all_goals (try (conv => whnf)))
      all_goals first | exact fin_pure z2 rfl | trace_state
end Go.Proofs.Ytpkbfpjkpiimiaa
