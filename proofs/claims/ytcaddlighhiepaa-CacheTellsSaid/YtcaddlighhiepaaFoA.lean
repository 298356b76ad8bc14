import Derived.Test.YtcaddlighhiepaaRarA
import Derived.Test.YtcaddlighhiepaaFlI
/- The reference's small functions for folding; learned. Printed by mkrf.py. -/
namespace Go.Proofs.Ytcaddlighhiepaa
open Go Go.RowKit
set_option linter.unusedSimpArgs false
set_option linter.unusedVariables false

set_option maxRecDepth 100000 in
theorem rimm_fn (o : Int) : Fn Try.prog 71 [.s (.int .i64 o)] [] (· = ⟨.a (.s (.int .i64 (immV o))), [], []⟩) := by
  refine fn_of_vc mixed tys_ok _ _ Try.func71 (by kernel_rfl) rfl Try.ntmps71 (by rw [Try.results71]) rfl ?_; dsimp only [argTm, argHl, Nat.zero_add, Nat.reduceAdd, List.length_nil, List.length_cons]
  (repeat' ((conv => whnf); first | (with_reducible apply sd_draw; · kernel_rfl) | (apply Sd.mk; · exact aSd) | ((with_reducible apply Vl.mk (α := Int)); · exact aAr) | ((with_reducible first | apply Vl.mk (α := Bool) | apply Vl.mk (α := Nat) | apply Vl.mk (α := ByteArray) | apply Ge.mk (α := Row) | apply Ge.mk (α := SV) | apply Ge.mk (α := AV)); · exact rfl) | (refine And.intro rfl ?_) | ((with_reducible first | apply Vl.mk (α := List SV) | apply Vl.mk (α := Ef) | apply Vl.mk (α := TV) | apply Ge.mk (α := List SV) | apply Sg.mk | apply Sk.mk); · exact aCl) | ((first | apply Br.mk | apply Gd.mk) <;> (intro hb; first | exact aKl hb | (simp only [d1, d2, beq_iff_eq, bne_iff_ne, d3, d4, d5, d6, Int.not_lt, Int.not_le, ge_iff_le, gt_iff_lt, ne_eq, d7] at hb; first | (exfalso; omega) | skip) | skip)))); (all_goals (try (conv => whnf)))
  all_goals first
    | (subst hb; exact fin_pure rfl rfl)
    | (refine fin_pure rfl ?_
       simp only [mkRes]
       congr 3
       unfold immV
       rw [if_neg (by omega), if_neg (by omega), if_neg (by omega), if_neg (by omega), if_neg (by omega), if_neg (by omega), if_neg (by omega), if_neg (by omega)])
def branB (o : Int) : Bool := decide (40 ≤ o ∧ o ≤ 45)
set_option maxRecDepth 100000 in
theorem rbranch_fn (o : Int) : Fn Try.prog 30 [.s (.int .i64 o)] [] (· = ⟨.a (.s (.bool (branB o))), [], []⟩) := by
  unfold branB
  refine fn_of_vc mixed tys_ok _ _ Try.func30 (by kernel_rfl) rfl Try.ntmps30 (by rw [Try.results30]) rfl ?_; dsimp only [argTm, argHl, Nat.zero_add, Nat.reduceAdd, List.length_nil, List.length_cons]
  (repeat' ((conv => whnf); first | (with_reducible apply sd_draw; · kernel_rfl) | (apply Sd.mk; · exact aSd) | ((with_reducible apply Vl.mk (α := Int)); · exact aAr) | ((with_reducible first | apply Vl.mk (α := Bool) | apply Vl.mk (α := Nat) | apply Vl.mk (α := ByteArray) | apply Ge.mk (α := Row) | apply Ge.mk (α := SV) | apply Ge.mk (α := AV)); · exact rfl) | (refine And.intro rfl ?_) | ((with_reducible first | apply Vl.mk (α := List SV) | apply Vl.mk (α := Ef) | apply Vl.mk (α := TV) | apply Ge.mk (α := List SV) | apply Sg.mk | apply Sk.mk); · exact aCl) | ((first | apply Br.mk | apply Gd.mk) <;> (intro hb; first | exact aKl hb | (simp only [d1, d2, beq_iff_eq, bne_iff_ne, d3, d4, d5, d6, Int.not_lt, Int.not_le, ge_iff_le, gt_iff_lt, ne_eq, d7] at hb; first | (exfalso; omega) | skip) | skip)))); (all_goals (try (conv => whnf)))
  all_goals (refine fin_pure rfl ?_; simp only [mkRes]; congr 3; first | (refine (decide_eq_false ?_).symm; omega) | (rw [Bool.eq_iff_iff]; simp only [decide_eq_true_eq]; omega))
set_option maxHeartbeats 1000000 in
set_option maxRecDepth 100000 in
theorem rlearn_fn (o n : Int) (a b c k : Nat) (is : List Bool) (v : List Nat) (hi : is.length = 16) (hv : v.length = 16) (ha : a < 16) :
    Fn Try.prog 48 [.agg (Mi.C ⟨o, a, b, c, k, n⟩), .agg (knC is v)] [] (· = ⟨.a (.agg (knC (aftI o a is) (aftV o a k v))), [], []⟩) := by
  have har := rarith_fn o
  have hkn := kn_known is v
  have kl : ∀ (i' : List Bool) (v' : List Nat), i'.length = 16 → v'.length = 16 → (knC i' v').length = 32 := fun i' v' h1 h2 => by unfold knC bsv; simp [h1, h2]
  have ks : ∀ (i' : List Bool) (v' : List Nat), allScal (knC i' v') = true := fun i' v' => by
    unfold knC
    refine allScal_append ?_ (wsv_scal v')
    induction i' with
    | nil => rfl
    | cons x l ih => exact ih
  have hl := kl is v hi hv
  generalize immB o = IB at *
  by_cases h0 : a = 0
  · have hc : wrtB o = false ∨ a = 0 := .inr h0
    have e1 : aftI o a is = is := if_pos hc
    have e2 : aftV o a k v = v := if_pos hc
    have hs := ks is v
    rw [e1, e2]
    subst h0
    generalize aluB o = BB at *
    generalize knC is v = KN at *
    have hsa : ∀ L : List SV, L.length = 32 → setAll L 0 KN = KN := fun L hL => setAll_all (by rw [hL, hl])
    have s1' := hl
    have s2' := hl
    refine fn_of_vc mixed tys_ok _ _ Try.func48 (by kernel_rfl) rfl Try.ntmps48 (by rw [Try.results48]) rfl ?_; dsimp only [argTm, argHl, Nat.zero_add, Nat.reduceAdd, List.length_nil, List.length_cons]
    dsimp only [Mi.C]
    (repeat' ((conv => whnf); first | (apply Sd.mk; · first | exact hkn | exact hkn | exact ⟨hl, hkn, rfl, by show 0 + KN.length ≤ 32; omega⟩ | (refine ⟨rfl, rfl, rfl, ?_⟩; first | (show 0 + 0 + ((a : Nat) : Int).toNat * 1 + 1 ≤ KN.length; omega) | (show 0 + 16 + ((a : Nat) : Int).toNat * 1 + 1 ≤ KN.length; omega)))  |  ((with_reducible apply Vl.mk (α := List SV)); · first | (with_reducible first | exact s1' | exact s2') | ((with_reducible refine hsa _ ?_); (focus exact rfl)))  |  (apply Sg.mk; · exact sg_all KN hl)  |  (refine vcall_pure (f := 49) (har) rfl ?_) | (with_reducible apply sd_draw; · kernel_rfl) | (apply Sd.mk; · exact aSd) | ((with_reducible apply Vl.mk (α := Int)); · exact aAr) | ((with_reducible first | apply Vl.mk (α := Bool) | apply Vl.mk (α := Nat) | apply Vl.mk (α := ByteArray) | apply Ge.mk (α := Row) | apply Ge.mk (α := SV) | apply Ge.mk (α := AV)); · exact rfl) | (refine And.intro rfl ?_) | ((with_reducible first | apply Vl.mk (α := List SV) | apply Vl.mk (α := Ef) | apply Vl.mk (α := TV) | apply Ge.mk (α := List SV) | apply Sg.mk | apply Sk.mk); · exact aCl) | ((first | apply Br.mk | apply Gd.mk) <;> (intro hb; first | exact aKl hb | (simp only [d1, d2, beq_iff_eq, bne_iff_ne, d3, d4, d5, d6, Int.not_lt, Int.not_le, ge_iff_le, gt_iff_lt, ne_eq, d7] at hb; first | (exfalso; omega) | skip) | skip)))); (all_goals (try (conv => whnf)))
    all_goals first | exact fin_pure hs rfl | trace_state
  by_cases h24 : o = 24
  · have hw : wrtB o = true := by rw [h24]; rfl
    have hc : ¬ (wrtB o = false ∨ a = 0) := by rintro (h | h); (rw [hw] at h; cases h); exact h0 h
    have e1 : aftI o a is = is.set a true := by unfold aftI; rw [if_neg hc, decide_eq_true h24]
    have e2 : aftV o a k v = v.set a k := by unfold aftV; rw [if_neg hc, if_pos h24]
    rw [e1, e2]
    have s1 := kn_set_is is v a true hi hv ha
    have s2 := kn_set_val (is.set a true) v a k (by simpa using hi) hv ha
    have l1 := kl (is.set a true) v (by simpa using hi) hv
    have l2 := kl (is.set a true) (v.set a k) (by simpa using hi) (by simpa using hv)
    have z2 := ks (is.set a true) (v.set a k)
    have n2 := kn_known (is.set a true) (v.set a k)
    generalize knC is v = KN at *
    generalize knC (is.set a true) v = K1 at *
    generalize knC (is.set a true) (v.set a k) = K2 at *
    have s1' : setAll KN (0 + 0 + ((a : Nat) : Int).toNat * ty4.size) [absS (Value.bool true)] = K1 := s1
    have s2' : setAll K1 (0 + 16 + ((a : Nat) : Int).toNat * ty24.size) [.int .u32 (k : Nat)] = K2 := s2
    have hsa : ∀ L : List SV, L.length = 32 → setAll L 0 K2 = K2 := fun L hL => setAll_all (by rw [hL, l2])
    generalize aluB o = BB at *
    refine fn_of_vc mixed tys_ok _ _ Try.func48 (by kernel_rfl) rfl Try.ntmps48 (by rw [Try.results48]) rfl ?_; dsimp only [argTm, argHl, Nat.zero_add, Nat.reduceAdd, List.length_nil, List.length_cons]
    dsimp only [Mi.C]
    (repeat' ((conv => whnf); first | (apply Sd.mk; · first | exact hkn | exact n2 | exact ⟨l2, n2, rfl, by show 0 + K2.length ≤ 32; omega⟩ | (refine ⟨rfl, rfl, rfl, ?_⟩; first | (show 0 + 0 + ((a : Nat) : Int).toNat * 1 + 1 ≤ KN.length; omega) | (show 0 + 16 + ((a : Nat) : Int).toNat * 1 + 1 ≤ K1.length; omega)))  |  ((with_reducible apply Vl.mk (α := List SV)); · first | (with_reducible first | exact s1' | exact s2') | ((with_reducible refine hsa _ ?_); (focus exact rfl)))  |  (apply Sg.mk; · exact sg_all K2 l2)  |  (refine vcall_pure (f := 49) (har) rfl ?_) | (with_reducible apply sd_draw; · kernel_rfl) | (apply Sd.mk; · exact aSd) | ((with_reducible apply Vl.mk (α := Int)); · exact aAr) | ((with_reducible first | apply Vl.mk (α := Bool) | apply Vl.mk (α := Nat) | apply Vl.mk (α := ByteArray) | apply Ge.mk (α := Row) | apply Ge.mk (α := SV) | apply Ge.mk (α := AV)); · exact rfl) | (refine And.intro rfl ?_) | ((with_reducible first | apply Vl.mk (α := List SV) | apply Vl.mk (α := Ef) | apply Vl.mk (α := TV) | apply Ge.mk (α := List SV) | apply Sg.mk | apply Sk.mk); · exact aCl) | ((first | apply Br.mk | apply Gd.mk) <;> (intro hb; first | exact aKl hb | (simp only [d1, d2, beq_iff_eq, bne_iff_ne, d3, d4, d5, d6, Int.not_lt, Int.not_le, ge_iff_le, gt_iff_lt, ne_eq, d7] at hb; first | (exfalso; omega) | skip) | skip)))); (all_goals (try (conv => whnf)))
    all_goals first | exact fin_pure z2 rfl | trace_state
  cases hB : aluB o with
  | true =>
    have hw : wrtB o = true := by unfold wrtB; rw [hB, Bool.or_true]
    have hc : ¬ (wrtB o = false ∨ a = 0) := by rintro (h | h); (rw [hw] at h; cases h); exact h0 h
    rw [hB] at har
    have e1 : aftI o a is = is.set a false := by unfold aftI; rw [if_neg hc, decide_eq_false h24]
    have e2 : aftV o a k v = v.set a 0 := by unfold aftV; rw [if_neg hc, if_neg h24]
    rw [e1, e2]
    have s1 := kn_set_is is v a false hi hv ha
    have s2 := kn_set_val (is.set a false) v a 0 (by simpa using hi) hv ha
    have l1 := kl (is.set a false) v (by simpa using hi) hv
    have l2 := kl (is.set a false) (v.set a 0) (by simpa using hi) (by simpa using hv)
    have z2 := ks (is.set a false) (v.set a 0)
    have n2 := kn_known (is.set a false) (v.set a 0)
    generalize knC is v = KN at *
    generalize knC (is.set a false) v = K1 at *
    generalize knC (is.set a false) (v.set a 0) = K2 at *
    have s1' : setAll KN (0 + 0 + ((a : Nat) : Int).toNat * ty4.size) [absS (Value.bool false)] = K1 := s1
    have s2' : setAll K1 (0 + 16 + ((a : Nat) : Int).toNat * ty24.size) [absS (Value.int IntKind.u32 0)] = K2 := s2
    have hsa : ∀ L : List SV, L.length = 32 → setAll L 0 K2 = K2 := fun L hL => setAll_all (by rw [hL, l2])
    refine fn_of_vc mixed tys_ok _ _ Try.func48 (by kernel_rfl) rfl Try.ntmps48 (by rw [Try.results48]) rfl ?_; dsimp only [argTm, argHl, Nat.zero_add, Nat.reduceAdd, List.length_nil, List.length_cons]
    dsimp only [Mi.C]
    (repeat' ((conv => whnf); first | (apply Sd.mk; · first | exact hkn | exact n2 | exact ⟨l2, n2, rfl, by show 0 + K2.length ≤ 32; omega⟩ | (refine ⟨rfl, rfl, rfl, ?_⟩; first | (show 0 + 0 + ((a : Nat) : Int).toNat * 1 + 1 ≤ KN.length; omega) | (show 0 + 16 + ((a : Nat) : Int).toNat * 1 + 1 ≤ K1.length; omega)))  |  ((with_reducible apply Vl.mk (α := List SV)); · first | (with_reducible first | exact s1' | exact s2') | ((with_reducible refine hsa _ ?_); (focus exact rfl)))  |  (apply Sg.mk; · exact sg_all K2 l2)  |  (refine vcall_pure (f := 49) (har) rfl ?_) | (with_reducible apply sd_draw; · kernel_rfl) | (apply Sd.mk; · exact aSd) | ((with_reducible apply Vl.mk (α := Int)); · exact aAr) | ((with_reducible first | apply Vl.mk (α := Bool) | apply Vl.mk (α := Nat) | apply Vl.mk (α := ByteArray) | apply Ge.mk (α := Row) | apply Ge.mk (α := SV) | apply Ge.mk (α := AV)); · exact rfl) | (refine And.intro rfl ?_) | ((with_reducible first | apply Vl.mk (α := List SV) | apply Vl.mk (α := Ef) | apply Vl.mk (α := TV) | apply Ge.mk (α := List SV) | apply Sg.mk | apply Sk.mk); · exact aCl) | ((first | apply Br.mk | apply Gd.mk) <;> (intro hb; first | exact aKl hb | (simp only [d1, d2, beq_iff_eq, bne_iff_ne, d3, d4, d5, d6, Int.not_lt, Int.not_le, ge_iff_le, gt_iff_lt, ne_eq, d7] at hb; first | (exfalso; omega) | skip) | skip)))); (all_goals (try (conv => whnf)))
    all_goals first | exact fin_pure z2 rfl | trace_state
  | false =>
    rw [hB] at har
    by_cases hl2 : 32 ≤ o ∧ o ≤ 34 ∨ o = 48 ∨ o = 49 ∨ o = 58 ∨ o = 60
    · have hw : wrtB o = true := by unfold wrtB; rw [decide_eq_true (by omega)]; rfl
      have hc : ¬ (wrtB o = false ∨ a = 0) := by rintro (h | h); (rw [hw] at h; cases h); exact h0 h
      have e1 : aftI o a is = is.set a false := by unfold aftI; rw [if_neg hc, decide_eq_false h24]
      have e2 : aftV o a k v = v.set a 0 := by unfold aftV; rw [if_neg hc, if_neg h24]
      rw [e1, e2]
      have s1 := kn_set_is is v a false hi hv ha
      have s2 := kn_set_val (is.set a false) v a 0 (by simpa using hi) hv ha
      have l1 := kl (is.set a false) v (by simpa using hi) hv
      have l2 := kl (is.set a false) (v.set a 0) (by simpa using hi) (by simpa using hv)
      have z2 := ks (is.set a false) (v.set a 0)
      have n2 := kn_known (is.set a false) (v.set a 0)
      generalize knC is v = KN at *
      generalize knC (is.set a false) v = K1 at *
      generalize knC (is.set a false) (v.set a 0) = K2 at *
      have s1' : setAll KN (0 + 0 + ((a : Nat) : Int).toNat * ty4.size) [absS (Value.bool false)] = K1 := s1
      have s2' : setAll K1 (0 + 16 + ((a : Nat) : Int).toNat * ty24.size) [absS (Value.int IntKind.u32 0)] = K2 := s2
      have hsa : ∀ L : List SV, L.length = 32 → setAll L 0 K2 = K2 := fun L hL => setAll_all (by rw [hL, l2])
      refine fn_of_vc mixed tys_ok _ _ Try.func48 (by kernel_rfl) rfl Try.ntmps48 (by rw [Try.results48]) rfl ?_; dsimp only [argTm, argHl, Nat.zero_add, Nat.reduceAdd, List.length_nil, List.length_cons]
      dsimp only [Mi.C]
      (repeat' ((conv => whnf); first | (apply Sd.mk; · first | exact hkn | exact n2 | exact ⟨l2, n2, rfl, by show 0 + K2.length ≤ 32; omega⟩ | (refine ⟨rfl, rfl, rfl, ?_⟩; first | (show 0 + 0 + ((a : Nat) : Int).toNat * 1 + 1 ≤ KN.length; omega) | (show 0 + 16 + ((a : Nat) : Int).toNat * 1 + 1 ≤ K1.length; omega)))  |  ((with_reducible apply Vl.mk (α := List SV)); · first | (with_reducible first | exact s1' | exact s2') | ((with_reducible refine hsa _ ?_); (focus exact rfl)))  |  (apply Sg.mk; · exact sg_all K2 l2)  |  (refine vcall_pure (f := 49) (har) rfl ?_) | (with_reducible apply sd_draw; · kernel_rfl) | (apply Sd.mk; · exact aSd) | ((with_reducible apply Vl.mk (α := Int)); · exact aAr) | ((with_reducible first | apply Vl.mk (α := Bool) | apply Vl.mk (α := Nat) | apply Vl.mk (α := ByteArray) | apply Ge.mk (α := Row) | apply Ge.mk (α := SV) | apply Ge.mk (α := AV)); · exact rfl) | (refine And.intro rfl ?_) | ((with_reducible first | apply Vl.mk (α := List SV) | apply Vl.mk (α := Ef) | apply Vl.mk (α := TV) | apply Ge.mk (α := List SV) | apply Sg.mk | apply Sk.mk); · exact aCl) | ((first | apply Br.mk | apply Gd.mk) <;> (intro hb; first | exact aKl hb | (simp only [d1, d2, beq_iff_eq, bne_iff_ne, d3, d4, d5, d6, Int.not_lt, Int.not_le, ge_iff_le, gt_iff_lt, ne_eq, d7] at hb; first | (exfalso; omega) | skip) | skip)))); (all_goals (try (conv => whnf)))
      all_goals first | exact fin_pure z2 rfl | trace_state
    · have hw : wrtB o = false := by unfold wrtB; rw [hB, decide_eq_false (by omega)]; rfl
      have hc : wrtB o = false ∨ a = 0 := .inl hw
      have e1 : aftI o a is = is := if_pos hc
      have e2 : aftV o a k v = v := if_pos hc
      have hs := ks is v
      rw [e1, e2]
      generalize knC is v = KN at *
      have hsa : ∀ L : List SV, L.length = 32 → setAll L 0 KN = KN := fun L hL => setAll_all (by rw [hL, hl])
      have s1' := hl
      have s2' := hl
      refine fn_of_vc mixed tys_ok _ _ Try.func48 (by kernel_rfl) rfl Try.ntmps48 (by rw [Try.results48]) rfl ?_; dsimp only [argTm, argHl, Nat.zero_add, Nat.reduceAdd, List.length_nil, List.length_cons]
      dsimp only [Mi.C]
      (repeat' ((conv => whnf); first | (apply Sd.mk; · first | exact hkn | exact hkn | exact ⟨hl, hkn, rfl, by show 0 + KN.length ≤ 32; omega⟩ | (refine ⟨rfl, rfl, rfl, ?_⟩; first | (show 0 + 0 + ((a : Nat) : Int).toNat * 1 + 1 ≤ KN.length; omega) | (show 0 + 16 + ((a : Nat) : Int).toNat * 1 + 1 ≤ KN.length; omega)))  |  ((with_reducible apply Vl.mk (α := List SV)); · first | (with_reducible first | exact s1' | exact s2') | ((with_reducible refine hsa _ ?_); (focus exact rfl)))  |  (apply Sg.mk; · exact sg_all KN hl)  |  (refine vcall_pure (f := 49) (har) rfl ?_) | (with_reducible apply sd_draw; · kernel_rfl) | (apply Sd.mk; · exact aSd) | ((with_reducible apply Vl.mk (α := Int)); · exact aAr) | ((with_reducible first | apply Vl.mk (α := Bool) | apply Vl.mk (α := Nat) | apply Vl.mk (α := ByteArray) | apply Ge.mk (α := Row) | apply Ge.mk (α := SV) | apply Ge.mk (α := AV)); · exact rfl) | (refine And.intro rfl ?_) | ((with_reducible first | apply Vl.mk (α := List SV) | apply Vl.mk (α := Ef) | apply Vl.mk (α := TV) | apply Ge.mk (α := List SV) | apply Sg.mk | apply Sk.mk); · exact aCl) | ((first | apply Br.mk | apply Gd.mk) <;> (intro hb; first | exact aKl hb | (simp only [d1, d2, beq_iff_eq, bne_iff_ne, d3, d4, d5, d6, Int.not_lt, Int.not_le, ge_iff_le, gt_iff_lt, ne_eq, d7] at hb; first | (exfalso; omega) | skip) | skip)))); (all_goals (try (conv => whnf)))
      all_goals first | exact fin_pure hs rfl | trace_state
end Go.Proofs.Ytcaddlighhiepaa

/- rewritten, case by case. Printed by mkrf.py. -/
namespace Go.Proofs.Ytcaddlighhiepaa
open Go Go.RowKit
set_option linter.unusedSimpArgs false
set_option linter.unusedVariables false

set_option maxHeartbeats 1000000 in
set_option maxRecDepth 100000 in
theorem rrwG_mem1 (o n : Int) (a b c k va vb vc : Nat) (is : List Bool) (v : List Nat) (ia ib ic : Bool) (hi : is.length = 16) (hv : v.length = 16) (hvr : ∀ y ∈ v, y < 4294967296) (ha : a < 16) (hb0 : b < 16) (hc : c < 16) (hk : k < 4294967296)
    (ga : is.getD a false = ia) (gb : is.getD b false = ib) (gc : is.getD c false = ic) (ua : v.getD a 0 = va) (ub : v.getD b 0 = vb) (uc : v.getD c 0 = vc) (la : va < 4294967296) (lb : vb < 4294967296) (lc : vc < 4294967296) (ho : 32 ≤ o ∧ o ≤ 36) (h : ib = true) (hb1 : b ≠ 0) :
    Fn Try.prog 47 [.agg (Mi.C ⟨o, a, b, c, k, n⟩), .agg (knC is v)] [] (· = ⟨.a (.agg (Mi.C (rewM ⟨o, a, b, c, k, n⟩ is v))), [], []⟩) := by
  have ra := rd_is is v a hi ha
  have rb := rd_is is v b hi hb0
  have rc := rd_is is v c hi hc
  have wa := rd_val is v a hi hv ha
  have wb := rd_val is v b hi hv hb0
  have wc := rd_val is v c hi hv hc
  rw [ga] at ra
  rw [gb] at rb
  rw [gc] at rc
  rw [ua] at wa
  rw [ub] at wb
  rw [uc] at wc
  have hsc := kn_known is v
  have e : rewM ⟨o, a, b, c, k, n⟩ is v = ⟨o, a, 0, c, (k + vb) % 4294967296, n⟩ := by
    unfold rewM
    simp only [ga, gb, gc, ua, ub, uc]
    rw [if_pos ho, if_pos ⟨h, hb1⟩]
  rw [e]
  clear ga gb gc ua ub uc
  have har := rarith_fn o
  have him := rimm_fn o
  have hbr := rbranch_fn o
  subst h
  have q1 : IntKind.u32.wrap ((k : Int) + (vb : Int)) = (((k + vb) % 4294967296 : Nat) : Int) := by rw [wu32']; omega
  rw [show aluB o = false by unfold aluB; exact decide_eq_false (by omega), show immB o = false by unfold immB; exact decide_eq_false (by omega)] at har
  generalize immV o = I at *
  rw [show branB o = false by unfold branB; exact decide_eq_false (by omega)] at hbr
  generalize knC is v = KN at *
  refine fn_of_vc mixed tys_ok _ _ Try.func47 (by kernel_rfl) rfl Try.ntmps47 (by rw [Try.results47]) rfl ?_; dsimp only [argTm, argHl, Nat.zero_add, Nat.reduceAdd, List.length_nil, List.length_cons]
  dsimp only [Mi.C]
  (repeat' ((conv => whnf); first | (apply Sd.mk; · exact hsc)  |  ((with_reducible apply Ge.mk (α := SV)); · with_reducible first | exact ra | exact rb | exact rc | exact wa | exact wb | exact wc)  |  (refine vcall_pure (f := 49) (har) rfl ?_)  |  (refine vcall_pure (f := 71) (him) rfl ?_)  |  (refine vcall_pure (f := 30) (hbr) rfl ?_)  |  ((with_reducible apply Vl.mk (α := Int)); · with_reducible exact q1) | (with_reducible apply sd_draw; · kernel_rfl) | (apply Sd.mk; · exact aSd) | ((with_reducible apply Vl.mk (α := Int)); · exact aAr) | ((with_reducible first | apply Vl.mk (α := Bool) | apply Vl.mk (α := Nat) | apply Vl.mk (α := ByteArray) | apply Ge.mk (α := Row) | apply Ge.mk (α := SV) | apply Ge.mk (α := AV)); · exact rfl) | (refine And.intro rfl ?_) | ((with_reducible first | apply Vl.mk (α := List SV) | apply Vl.mk (α := Ef) | apply Vl.mk (α := TV) | apply Ge.mk (α := List SV) | apply Sg.mk | apply Sk.mk); · exact aCl) | ((first | apply Br.mk | apply Gd.mk) <;> (intro hb; first | exact aKl hb | (simp only [d1, d2, beq_iff_eq, bne_iff_ne, d3, d4, d5, d6, Int.not_lt, Int.not_le, ge_iff_le, gt_iff_lt, ne_eq, d7] at hb; first | (exfalso; omega) | skip) | skip)))); (all_goals (try (conv => whnf)))
  all_goals
    first
      | exact fin_pure rfl rfl
      | trace_state
set_option maxHeartbeats 1000000 in
set_option maxRecDepth 100000 in
theorem rrwG_mem0 (o n : Int) (a b c k va vb vc : Nat) (is : List Bool) (v : List Nat) (ia ib ic : Bool) (hi : is.length = 16) (hv : v.length = 16) (hvr : ∀ y ∈ v, y < 4294967296) (ha : a < 16) (hb0 : b < 16) (hc : c < 16) (hk : k < 4294967296)
    (ga : is.getD a false = ia) (gb : is.getD b false = ib) (gc : is.getD c false = ic) (ua : v.getD a 0 = va) (ub : v.getD b 0 = vb) (uc : v.getD c 0 = vc) (la : va < 4294967296) (lb : vb < 4294967296) (lc : vc < 4294967296) (ho : 32 ≤ o ∧ o ≤ 36) (h : ib = false) :
    Fn Try.prog 47 [.agg (Mi.C ⟨o, a, b, c, k, n⟩), .agg (knC is v)] [] (· = ⟨.a (.agg (Mi.C (rewM ⟨o, a, b, c, k, n⟩ is v))), [], []⟩) := by
  have ra := rd_is is v a hi ha
  have rb := rd_is is v b hi hb0
  have rc := rd_is is v c hi hc
  have wa := rd_val is v a hi hv ha
  have wb := rd_val is v b hi hv hb0
  have wc := rd_val is v c hi hv hc
  rw [ga] at ra
  rw [gb] at rb
  rw [gc] at rc
  rw [ua] at wa
  rw [ub] at wb
  rw [uc] at wc
  have hsc := kn_known is v
  have e : rewM ⟨o, a, b, c, k, n⟩ is v = ⟨o, a, b, c, k, n⟩ := by
    unfold rewM
    simp only [ga, gb, gc, ua, ub, uc]
    rw [if_pos ho, if_neg (by rintro ⟨h1, h2⟩; rw [h] at h1; cases h1)]
  rw [e]
  clear ga gb gc ua ub uc
  have har := rarith_fn o
  have him := rimm_fn o
  have hbr := rbranch_fn o
  subst h
  rw [show aluB o = false by unfold aluB; exact decide_eq_false (by omega), show immB o = false by unfold immB; exact decide_eq_false (by omega)] at har
  generalize immV o = I at *
  rw [show branB o = false by unfold branB; exact decide_eq_false (by omega)] at hbr
  generalize knC is v = KN at *
  refine fn_of_vc mixed tys_ok _ _ Try.func47 (by kernel_rfl) rfl Try.ntmps47 (by rw [Try.results47]) rfl ?_; dsimp only [argTm, argHl, Nat.zero_add, Nat.reduceAdd, List.length_nil, List.length_cons]
  dsimp only [Mi.C]
  (repeat' ((conv => whnf); first | (apply Sd.mk; · exact hsc)  |  ((with_reducible apply Ge.mk (α := SV)); · with_reducible first | exact ra | exact rb | exact rc | exact wa | exact wb | exact wc)  |  (refine vcall_pure (f := 49) (har) rfl ?_)  |  (refine vcall_pure (f := 71) (him) rfl ?_)  |  (refine vcall_pure (f := 30) (hbr) rfl ?_) | (with_reducible apply sd_draw; · kernel_rfl) | (apply Sd.mk; · exact aSd) | ((with_reducible apply Vl.mk (α := Int)); · exact aAr) | ((with_reducible first | apply Vl.mk (α := Bool) | apply Vl.mk (α := Nat) | apply Vl.mk (α := ByteArray) | apply Ge.mk (α := Row) | apply Ge.mk (α := SV) | apply Ge.mk (α := AV)); · exact rfl) | (refine And.intro rfl ?_) | ((with_reducible first | apply Vl.mk (α := List SV) | apply Vl.mk (α := Ef) | apply Vl.mk (α := TV) | apply Ge.mk (α := List SV) | apply Sg.mk | apply Sk.mk); · exact aCl) | ((first | apply Br.mk | apply Gd.mk) <;> (intro hb; first | exact aKl hb | (simp only [d1, d2, beq_iff_eq, bne_iff_ne, d3, d4, d5, d6, Int.not_lt, Int.not_le, ge_iff_le, gt_iff_lt, ne_eq, d7] at hb; first | (exfalso; omega) | skip) | skip)))); (all_goals (try (conv => whnf)))
  all_goals
    first
      | exact fin_pure rfl rfl
      | trace_state
set_option maxHeartbeats 1000000 in
set_option maxRecDepth 100000 in
theorem rrwG_memz (o n : Int) (a b c k va vb vc : Nat) (is : List Bool) (v : List Nat) (ia ib ic : Bool) (hi : is.length = 16) (hv : v.length = 16) (hvr : ∀ y ∈ v, y < 4294967296) (ha : a < 16) (hb0 : b < 16) (hc : c < 16) (hk : k < 4294967296)
    (ga : is.getD a false = ia) (gb : is.getD b false = ib) (gc : is.getD c false = ic) (ua : v.getD a 0 = va) (ub : v.getD b 0 = vb) (uc : v.getD c 0 = vc) (la : va < 4294967296) (lb : vb < 4294967296) (lc : vc < 4294967296) (ho : 32 ≤ o ∧ o ≤ 36) (h : b = 0) :
    Fn Try.prog 47 [.agg (Mi.C ⟨o, a, b, c, k, n⟩), .agg (knC is v)] [] (· = ⟨.a (.agg (Mi.C (rewM ⟨o, a, b, c, k, n⟩ is v))), [], []⟩) := by
  have ra := rd_is is v a hi ha
  have rb := rd_is is v b hi hb0
  have rc := rd_is is v c hi hc
  have wa := rd_val is v a hi hv ha
  have wb := rd_val is v b hi hv hb0
  have wc := rd_val is v c hi hv hc
  rw [ga] at ra
  rw [gb] at rb
  rw [gc] at rc
  rw [ua] at wa
  rw [ub] at wb
  rw [uc] at wc
  have hsc := kn_known is v
  have e : rewM ⟨o, a, b, c, k, n⟩ is v = ⟨o, a, b, c, k, n⟩ := by
    unfold rewM
    simp only [ga, gb, gc, ua, ub, uc]
    rw [if_pos ho, if_neg (by rintro ⟨h1, h2⟩; exact h2 h)]
  rw [e]
  clear ga gb gc ua ub uc
  have har := rarith_fn o
  have him := rimm_fn o
  have hbr := rbranch_fn o
  rw [show aluB o = false by unfold aluB; exact decide_eq_false (by omega), show immB o = false by unfold immB; exact decide_eq_false (by omega)] at har
  generalize immV o = I at *
  rw [show branB o = false by unfold branB; exact decide_eq_false (by omega)] at hbr
  generalize knC is v = KN at *
  refine fn_of_vc mixed tys_ok _ _ Try.func47 (by kernel_rfl) rfl Try.ntmps47 (by rw [Try.results47]) rfl ?_; dsimp only [argTm, argHl, Nat.zero_add, Nat.reduceAdd, List.length_nil, List.length_cons]
  dsimp only [Mi.C]
  (repeat' ((conv => whnf); first | (apply Sd.mk; · exact hsc)  |  ((with_reducible apply Ge.mk (α := SV)); · with_reducible first | exact ra | exact rb | exact rc | exact wa | exact wb | exact wc)  |  (refine vcall_pure (f := 49) (har) rfl ?_)  |  (refine vcall_pure (f := 71) (him) rfl ?_)  |  (refine vcall_pure (f := 30) (hbr) rfl ?_) | (with_reducible apply sd_draw; · kernel_rfl) | (apply Sd.mk; · exact aSd) | ((with_reducible apply Vl.mk (α := Int)); · exact aAr) | ((with_reducible first | apply Vl.mk (α := Bool) | apply Vl.mk (α := Nat) | apply Vl.mk (α := ByteArray) | apply Ge.mk (α := Row) | apply Ge.mk (α := SV) | apply Ge.mk (α := AV)); · exact rfl) | (refine And.intro rfl ?_) | ((with_reducible first | apply Vl.mk (α := List SV) | apply Vl.mk (α := Ef) | apply Vl.mk (α := TV) | apply Ge.mk (α := List SV) | apply Sg.mk | apply Sk.mk); · exact aCl) | ((first | apply Br.mk | apply Gd.mk) <;> (intro hb; first | exact aKl hb | (simp only [d1, d2, beq_iff_eq, bne_iff_ne, d3, d4, d5, d6, Int.not_lt, Int.not_le, ge_iff_le, gt_iff_lt, ne_eq, d7] at hb; first | (exfalso; omega) | skip) | skip)))); (all_goals (try (conv => whnf)))
  all_goals
    first
      | exact fin_pure rfl rfl
      | trace_state
set_option maxHeartbeats 1000000 in
set_option maxRecDepth 100000 in
theorem rrwG_br1 (o n : Int) (a b c k va vb vc : Nat) (is : List Bool) (v : List Nat) (ia ib ic : Bool) (hi : is.length = 16) (hv : v.length = 16) (hvr : ∀ y ∈ v, y < 4294967296) (ha : a < 16) (hb0 : b < 16) (hc : c < 16) (hk : k < 4294967296)
    (ga : is.getD a false = ia) (gb : is.getD b false = ib) (gc : is.getD c false = ic) (ua : v.getD a 0 = va) (ub : v.getD b 0 = vb) (uc : v.getD c 0 = vc) (la : va < 4294967296) (lb : vb < 4294967296) (lc : vc < 4294967296) (ho : 40 ≤ o ∧ o ≤ 45) (h1 : ia = true) (h2 : ib = true) (tk : Bool) (htk : takI o va vb = tk) :
    Fn Try.prog 47 [.agg (Mi.C ⟨o, a, b, c, k, n⟩), .agg (knC is v)] [] (· = ⟨.a (.agg (Mi.C (rewM ⟨o, a, b, c, k, n⟩ is v))), [], []⟩) := by
  have ra := rd_is is v a hi ha
  have rb := rd_is is v b hi hb0
  have rc := rd_is is v c hi hc
  have wa := rd_val is v a hi hv ha
  have wb := rd_val is v b hi hv hb0
  have wc := rd_val is v c hi hv hc
  rw [ga] at ra
  rw [gb] at rb
  rw [gc] at rc
  rw [ua] at wa
  rw [ub] at wb
  rw [uc] at wc
  have hsc := kn_known is v
  have e : rewM ⟨o, a, b, c, k, n⟩ is v = ⟨48, 0, 0, 0, if tk then k else 4, n⟩ := by
    unfold rewM
    simp only [ga, gb, gc, ua, ub, uc]
    rw [if_neg (by omega), if_pos ho, if_pos ⟨h1, h2⟩, htk]
  rw [e]
  clear ga gb gc ua ub uc
  have har := rarith_fn o
  have him := rimm_fn o
  have hbr := rbranch_fn o
  subst h1
  subst h2
  rw [show aluB o = false by unfold aluB; exact decide_eq_false (by omega), show immB o = false by unfold immB; exact decide_eq_false (by omega)] at har
  generalize immV o = I at *
  rw [show branB o = true by unfold branB; exact decide_eq_true ho] at hbr
  have ht := rtaken_fn o va vb
  rw [htk] at ht
  clear htk e
  revert ht
  cases tk
  all_goals
   intro ht
   generalize knC is v = KN at *
   refine fn_of_vc mixed tys_ok _ _ Try.func47 (by kernel_rfl) rfl Try.ntmps47 (by rw [Try.results47]) rfl ?_; dsimp only [argTm, argHl, Nat.zero_add, Nat.reduceAdd, List.length_nil, List.length_cons]
   dsimp only [Mi.C]
   (repeat' ((conv => whnf); first | (apply Sd.mk; · exact hsc)  |  ((with_reducible apply Ge.mk (α := SV)); · with_reducible first | exact ra | exact rb | exact rc | exact wa | exact wb | exact wc)  |  (refine vcall_pure (f := 49) (har) rfl ?_)  |  (refine vcall_pure (f := 71) (him) rfl ?_)  |  (refine vcall_pure (f := 30) (hbr) rfl ?_)  |  (refine vcall_pure (f := 72) (ht) rfl ?_) | (with_reducible apply sd_draw; · kernel_rfl) | (apply Sd.mk; · exact aSd) | ((with_reducible apply Vl.mk (α := Int)); · exact aAr) | ((with_reducible first | apply Vl.mk (α := Bool) | apply Vl.mk (α := Nat) | apply Vl.mk (α := ByteArray) | apply Ge.mk (α := Row) | apply Ge.mk (α := SV) | apply Ge.mk (α := AV)); · exact rfl) | (refine And.intro rfl ?_) | ((with_reducible first | apply Vl.mk (α := List SV) | apply Vl.mk (α := Ef) | apply Vl.mk (α := TV) | apply Ge.mk (α := List SV) | apply Sg.mk | apply Sk.mk); · exact aCl) | ((first | apply Br.mk | apply Gd.mk) <;> (intro hb; first | exact aKl hb | (simp only [d1, d2, beq_iff_eq, bne_iff_ne, d3, d4, d5, d6, Int.not_lt, Int.not_le, ge_iff_le, gt_iff_lt, ne_eq, d7] at hb; first | (exfalso; omega) | skip) | skip)))); (all_goals (try (conv => whnf)))
   all_goals
     first
       | exact fin_pure rfl rfl
       | trace_state
set_option maxHeartbeats 1000000 in
set_option maxRecDepth 100000 in
theorem rrwG_bra (o n : Int) (a b c k va vb vc : Nat) (is : List Bool) (v : List Nat) (ia ib ic : Bool) (hi : is.length = 16) (hv : v.length = 16) (hvr : ∀ y ∈ v, y < 4294967296) (ha : a < 16) (hb0 : b < 16) (hc : c < 16) (hk : k < 4294967296)
    (ga : is.getD a false = ia) (gb : is.getD b false = ib) (gc : is.getD c false = ic) (ua : v.getD a 0 = va) (ub : v.getD b 0 = vb) (uc : v.getD c 0 = vc) (la : va < 4294967296) (lb : vb < 4294967296) (lc : vc < 4294967296) (ho : 40 ≤ o ∧ o ≤ 45) (h1 : ia = false) :
    Fn Try.prog 47 [.agg (Mi.C ⟨o, a, b, c, k, n⟩), .agg (knC is v)] [] (· = ⟨.a (.agg (Mi.C (rewM ⟨o, a, b, c, k, n⟩ is v))), [], []⟩) := by
  have ra := rd_is is v a hi ha
  have rb := rd_is is v b hi hb0
  have rc := rd_is is v c hi hc
  have wa := rd_val is v a hi hv ha
  have wb := rd_val is v b hi hv hb0
  have wc := rd_val is v c hi hv hc
  rw [ga] at ra
  rw [gb] at rb
  rw [gc] at rc
  rw [ua] at wa
  rw [ub] at wb
  rw [uc] at wc
  have hsc := kn_known is v
  have e : rewM ⟨o, a, b, c, k, n⟩ is v = ⟨o, a, b, c, k, n⟩ := by
    unfold rewM
    simp only [ga, gb, gc, ua, ub, uc]
    rw [if_neg (by omega), if_pos ho, if_neg (by rintro ⟨h, _⟩; rw [h1] at h; cases h)]
  rw [e]
  clear ga gb gc ua ub uc
  have har := rarith_fn o
  have him := rimm_fn o
  have hbr := rbranch_fn o
  subst h1
  rw [show aluB o = false by unfold aluB; exact decide_eq_false (by omega), show immB o = false by unfold immB; exact decide_eq_false (by omega)] at har
  generalize immV o = I at *
  rw [show branB o = true by unfold branB; exact decide_eq_true ho] at hbr
  generalize knC is v = KN at *
  refine fn_of_vc mixed tys_ok _ _ Try.func47 (by kernel_rfl) rfl Try.ntmps47 (by rw [Try.results47]) rfl ?_; dsimp only [argTm, argHl, Nat.zero_add, Nat.reduceAdd, List.length_nil, List.length_cons]
  dsimp only [Mi.C]
  (repeat' ((conv => whnf); first | (apply Sd.mk; · exact hsc)  |  ((with_reducible apply Ge.mk (α := SV)); · with_reducible first | exact ra | exact rb | exact rc | exact wa | exact wb | exact wc)  |  (refine vcall_pure (f := 49) (har) rfl ?_)  |  (refine vcall_pure (f := 71) (him) rfl ?_)  |  (refine vcall_pure (f := 30) (hbr) rfl ?_) | (with_reducible apply sd_draw; · kernel_rfl) | (apply Sd.mk; · exact aSd) | ((with_reducible apply Vl.mk (α := Int)); · exact aAr) | ((with_reducible first | apply Vl.mk (α := Bool) | apply Vl.mk (α := Nat) | apply Vl.mk (α := ByteArray) | apply Ge.mk (α := Row) | apply Ge.mk (α := SV) | apply Ge.mk (α := AV)); · exact rfl) | (refine And.intro rfl ?_) | ((with_reducible first | apply Vl.mk (α := List SV) | apply Vl.mk (α := Ef) | apply Vl.mk (α := TV) | apply Ge.mk (α := List SV) | apply Sg.mk | apply Sk.mk); · exact aCl) | ((first | apply Br.mk | apply Gd.mk) <;> (intro hb; first | exact aKl hb | (simp only [d1, d2, beq_iff_eq, bne_iff_ne, d3, d4, d5, d6, Int.not_lt, Int.not_le, ge_iff_le, gt_iff_lt, ne_eq, d7] at hb; first | (exfalso; omega) | skip) | skip)))); (all_goals (try (conv => whnf)))
  all_goals
    first
      | exact fin_pure rfl rfl
      | trace_state
set_option maxHeartbeats 1000000 in
set_option maxRecDepth 100000 in
theorem rrwG_brb (o n : Int) (a b c k va vb vc : Nat) (is : List Bool) (v : List Nat) (ia ib ic : Bool) (hi : is.length = 16) (hv : v.length = 16) (hvr : ∀ y ∈ v, y < 4294967296) (ha : a < 16) (hb0 : b < 16) (hc : c < 16) (hk : k < 4294967296)
    (ga : is.getD a false = ia) (gb : is.getD b false = ib) (gc : is.getD c false = ic) (ua : v.getD a 0 = va) (ub : v.getD b 0 = vb) (uc : v.getD c 0 = vc) (la : va < 4294967296) (lb : vb < 4294967296) (lc : vc < 4294967296) (ho : 40 ≤ o ∧ o ≤ 45) (h1 : ia = true) (h2 : ib = false) :
    Fn Try.prog 47 [.agg (Mi.C ⟨o, a, b, c, k, n⟩), .agg (knC is v)] [] (· = ⟨.a (.agg (Mi.C (rewM ⟨o, a, b, c, k, n⟩ is v))), [], []⟩) := by
  have ra := rd_is is v a hi ha
  have rb := rd_is is v b hi hb0
  have rc := rd_is is v c hi hc
  have wa := rd_val is v a hi hv ha
  have wb := rd_val is v b hi hv hb0
  have wc := rd_val is v c hi hv hc
  rw [ga] at ra
  rw [gb] at rb
  rw [gc] at rc
  rw [ua] at wa
  rw [ub] at wb
  rw [uc] at wc
  have hsc := kn_known is v
  have e : rewM ⟨o, a, b, c, k, n⟩ is v = ⟨o, a, b, c, k, n⟩ := by
    unfold rewM
    simp only [ga, gb, gc, ua, ub, uc]
    rw [if_neg (by omega), if_pos ho, if_neg (by rintro ⟨_, h⟩; rw [h2] at h; cases h)]
  rw [e]
  clear ga gb gc ua ub uc
  have har := rarith_fn o
  have him := rimm_fn o
  have hbr := rbranch_fn o
  subst h1
  subst h2
  rw [show aluB o = false by unfold aluB; exact decide_eq_false (by omega), show immB o = false by unfold immB; exact decide_eq_false (by omega)] at har
  generalize immV o = I at *
  rw [show branB o = true by unfold branB; exact decide_eq_true ho] at hbr
  generalize knC is v = KN at *
  refine fn_of_vc mixed tys_ok _ _ Try.func47 (by kernel_rfl) rfl Try.ntmps47 (by rw [Try.results47]) rfl ?_; dsimp only [argTm, argHl, Nat.zero_add, Nat.reduceAdd, List.length_nil, List.length_cons]
  dsimp only [Mi.C]
  (repeat' ((conv => whnf); first | (apply Sd.mk; · exact hsc)  |  ((with_reducible apply Ge.mk (α := SV)); · with_reducible first | exact ra | exact rb | exact rc | exact wa | exact wb | exact wc)  |  (refine vcall_pure (f := 49) (har) rfl ?_)  |  (refine vcall_pure (f := 71) (him) rfl ?_)  |  (refine vcall_pure (f := 30) (hbr) rfl ?_) | (with_reducible apply sd_draw; · kernel_rfl) | (apply Sd.mk; · exact aSd) | ((with_reducible apply Vl.mk (α := Int)); · exact aAr) | ((with_reducible first | apply Vl.mk (α := Bool) | apply Vl.mk (α := Nat) | apply Vl.mk (α := ByteArray) | apply Ge.mk (α := Row) | apply Ge.mk (α := SV) | apply Ge.mk (α := AV)); · exact rfl) | (refine And.intro rfl ?_) | ((with_reducible first | apply Vl.mk (α := List SV) | apply Vl.mk (α := Ef) | apply Vl.mk (α := TV) | apply Ge.mk (α := List SV) | apply Sg.mk | apply Sk.mk); · exact aCl) | ((first | apply Br.mk | apply Gd.mk) <;> (intro hb; first | exact aKl hb | (simp only [d1, d2, beq_iff_eq, bne_iff_ne, d3, d4, d5, d6, Int.not_lt, Int.not_le, ge_iff_le, gt_iff_lt, ne_eq, d7] at hb; first | (exfalso; omega) | skip) | skip)))); (all_goals (try (conv => whnf)))
  all_goals
    first
      | exact fin_pure rfl rfl
      | trace_state
set_option maxHeartbeats 1000000 in
set_option maxRecDepth 100000 in
theorem rrwG_oth (o n : Int) (a b c k va vb vc : Nat) (is : List Bool) (v : List Nat) (ia ib ic : Bool) (hi : is.length = 16) (hv : v.length = 16) (hvr : ∀ y ∈ v, y < 4294967296) (ha : a < 16) (hb0 : b < 16) (hc : c < 16) (hk : k < 4294967296)
    (ga : is.getD a false = ia) (gb : is.getD b false = ib) (gc : is.getD c false = ic) (ua : v.getD a 0 = va) (ub : v.getD b 0 = vb) (uc : v.getD c 0 = vc) (la : va < 4294967296) (lb : vb < 4294967296) (lc : vc < 4294967296) (ho : ¬ (32 ≤ o ∧ o ≤ 36)) (ho2 : ¬ (40 ≤ o ∧ o ≤ 45)) (h : aluB o = false) :
    Fn Try.prog 47 [.agg (Mi.C ⟨o, a, b, c, k, n⟩), .agg (knC is v)] [] (· = ⟨.a (.agg (Mi.C (rewM ⟨o, a, b, c, k, n⟩ is v))), [], []⟩) := by
  have ra := rd_is is v a hi ha
  have rb := rd_is is v b hi hb0
  have rc := rd_is is v c hi hc
  have wa := rd_val is v a hi hv ha
  have wb := rd_val is v b hi hv hb0
  have wc := rd_val is v c hi hv hc
  rw [ga] at ra
  rw [gb] at rb
  rw [gc] at rc
  rw [ua] at wa
  rw [ub] at wb
  rw [uc] at wc
  have hsc := kn_known is v
  have e : rewM ⟨o, a, b, c, k, n⟩ is v = ⟨o, a, b, c, k, n⟩ := by
    unfold rewM
    simp only [ga, gb, gc, ua, ub, uc]
    rw [if_neg ho, if_neg ho2, if_pos h]
  rw [e]
  clear ga gb gc ua ub uc
  have har := rarith_fn o
  have him := rimm_fn o
  have hbr := rbranch_fn o
  have hno := (by unfold aluB at h; exact of_decide_eq_false h : ¬ (1 ≤ o ∧ o ≤ 13 ∨ 16 ≤ o ∧ o ≤ 23))
  rw [show aluB o = false by unfold aluB; exact decide_eq_false (by omega), show immB o = false by unfold immB; exact decide_eq_false (by omega)] at har
  generalize immV o = I at *
  rw [show branB o = false by unfold branB; exact decide_eq_false (by omega)] at hbr
  generalize knC is v = KN at *
  refine fn_of_vc mixed tys_ok _ _ Try.func47 (by kernel_rfl) rfl Try.ntmps47 (by rw [Try.results47]) rfl ?_; dsimp only [argTm, argHl, Nat.zero_add, Nat.reduceAdd, List.length_nil, List.length_cons]
  dsimp only [Mi.C]
  (repeat' ((conv => whnf); first | (apply Sd.mk; · exact hsc)  |  ((with_reducible apply Ge.mk (α := SV)); · with_reducible first | exact ra | exact rb | exact rc | exact wa | exact wb | exact wc)  |  (refine vcall_pure (f := 49) (har) rfl ?_)  |  (refine vcall_pure (f := 71) (him) rfl ?_)  |  (refine vcall_pure (f := 30) (hbr) rfl ?_) | (with_reducible apply sd_draw; · kernel_rfl) | (apply Sd.mk; · exact aSd) | ((with_reducible apply Vl.mk (α := Int)); · exact aAr) | ((with_reducible first | apply Vl.mk (α := Bool) | apply Vl.mk (α := Nat) | apply Vl.mk (α := ByteArray) | apply Ge.mk (α := Row) | apply Ge.mk (α := SV) | apply Ge.mk (α := AV)); · exact rfl) | (refine And.intro rfl ?_) | ((with_reducible first | apply Vl.mk (α := List SV) | apply Vl.mk (α := Ef) | apply Vl.mk (α := TV) | apply Ge.mk (α := List SV) | apply Sg.mk | apply Sk.mk); · exact aCl) | ((first | apply Br.mk | apply Gd.mk) <;> (intro hb; first | exact aKl hb | (simp only [d1, d2, beq_iff_eq, bne_iff_ne, d3, d4, d5, d6, Int.not_lt, Int.not_le, ge_iff_le, gt_iff_lt, ne_eq, d7] at hb; first | (exfalso; omega) | skip) | skip)))); (all_goals (try (conv => whnf)))
  all_goals
    first
      | exact fin_pure rfl rfl
      | trace_state
set_option maxHeartbeats 1000000 in
set_option maxRecDepth 100000 in
theorem rrwG_k3 (o n : Int) (a b c k va vb vc : Nat) (is : List Bool) (v : List Nat) (ia ib ic : Bool) (hi : is.length = 16) (hv : v.length = 16) (hvr : ∀ y ∈ v, y < 4294967296) (ha : a < 16) (hb0 : b < 16) (hc : c < 16) (hk : k < 4294967296)
    (ga : is.getD a false = ia) (gb : is.getD b false = ib) (gc : is.getD c false = ic) (ua : v.getD a 0 = va) (ub : v.getD b 0 = vb) (uc : v.getD c 0 = vc) (la : va < 4294967296) (lb : vb < 4294967296) (lc : vc < 4294967296) (hB : aluB o = true) (ho : 1 ≤ o ∧ o ≤ 13) (h1 : ib = true) (h2 : ic = true) :
    Fn Try.prog 47 [.agg (Mi.C ⟨o, a, b, c, k, n⟩), .agg (knC is v)] [] (· = ⟨.a (.agg (Mi.C (rewM ⟨o, a, b, c, k, n⟩ is v))), [], []⟩) := by
  have ra := rd_is is v a hi ha
  have rb := rd_is is v b hi hb0
  have rc := rd_is is v c hi hc
  have wa := rd_val is v a hi hv ha
  have wb := rd_val is v b hi hv hb0
  have wc := rd_val is v c hi hv hc
  rw [ga] at ra
  rw [gb] at rb
  rw [gc] at rc
  rw [ua] at wa
  rw [ub] at wb
  rw [uc] at wc
  have hsc := kn_known is v
  have e : rewM ⟨o, a, b, c, k, n⟩ is v = ⟨24, a, 0, 0, aluN o vb vc, n⟩ := by
    unfold rewM
    simp only [ga, gb, gc, ua, ub, uc]
    rw [if_neg (by omega), if_neg (by omega), if_neg (by rw [hB]; simp), if_pos ⟨h1, .inr h2⟩, if_pos (show thrB o = true from decide_eq_true ho)]
  rw [e]
  clear ga gb gc ua ub uc
  have har := rarith_fn o
  have him := rimm_fn o
  have hbr := rbranch_fn o
  subst h1
  subst h2
  clear e
  rw [hB, show immB o = false by unfold immB; exact decide_eq_false (by omega)] at har
  rw [show branB o = false by unfold branB; exact decide_eq_false (by omega)] at hbr
  have hal := ralu_fn o vb vc lb lc
  rw [← aluN_cast o vb vc lb lc] at hal
  generalize aluN o vb vc = V at *
  rw [hB] at hal
  generalize knC is v = KN at *
  refine fn_of_vc mixed tys_ok _ _ Try.func47 (by kernel_rfl) rfl Try.ntmps47 (by rw [Try.results47]) rfl ?_; dsimp only [argTm, argHl, Nat.zero_add, Nat.reduceAdd, List.length_nil, List.length_cons]
  dsimp only [Mi.C]
  (repeat' ((conv => whnf); first | (apply Sd.mk; · exact hsc)  |  ((with_reducible apply Ge.mk (α := SV)); · with_reducible first | exact ra | exact rb | exact rc | exact wa | exact wb | exact wc)  |  (refine vcall_pure (f := 49) (har) rfl ?_)  |  (refine vcall_pure (f := 71) (him) rfl ?_)  |  (refine vcall_pure (f := 30) (hbr) rfl ?_)  |  (refine vcall_pure (f := 70) (hal) rfl ?_) | (with_reducible apply sd_draw; · kernel_rfl) | (apply Sd.mk; · exact aSd) | ((with_reducible apply Vl.mk (α := Int)); · exact aAr) | ((with_reducible first | apply Vl.mk (α := Bool) | apply Vl.mk (α := Nat) | apply Vl.mk (α := ByteArray) | apply Ge.mk (α := Row) | apply Ge.mk (α := SV) | apply Ge.mk (α := AV)); · exact rfl) | (refine And.intro rfl ?_) | ((with_reducible first | apply Vl.mk (α := List SV) | apply Vl.mk (α := Ef) | apply Vl.mk (α := TV) | apply Ge.mk (α := List SV) | apply Sg.mk | apply Sk.mk); · exact aCl) | ((first | apply Br.mk | apply Gd.mk) <;> (intro hb; first | exact aKl hb | (simp only [d1, d2, beq_iff_eq, bne_iff_ne, d3, d4, d5, d6, Int.not_lt, Int.not_le, ge_iff_le, gt_iff_lt, ne_eq, d7] at hb; first | (exfalso; omega) | skip) | skip)))); (all_goals (try (conv => whnf)))
  all_goals
    first
      | exact fin_pure rfl rfl
      | trace_state
set_option maxHeartbeats 1000000 in
set_option maxRecDepth 100000 in
theorem rrwG_kI (o n : Int) (a b c k va vb vc : Nat) (is : List Bool) (v : List Nat) (ia ib ic : Bool) (hi : is.length = 16) (hv : v.length = 16) (hvr : ∀ y ∈ v, y < 4294967296) (ha : a < 16) (hb0 : b < 16) (hc : c < 16) (hk : k < 4294967296)
    (ga : is.getD a false = ia) (gb : is.getD b false = ib) (gc : is.getD c false = ic) (ua : v.getD a 0 = va) (ub : v.getD b 0 = vb) (uc : v.getD c 0 = vc) (la : va < 4294967296) (lb : vb < 4294967296) (lc : vc < 4294967296) (hB : aluB o = true) (ho : 16 ≤ o ∧ o ≤ 23) (h1 : ib = true) :
    Fn Try.prog 47 [.agg (Mi.C ⟨o, a, b, c, k, n⟩), .agg (knC is v)] [] (· = ⟨.a (.agg (Mi.C (rewM ⟨o, a, b, c, k, n⟩ is v))), [], []⟩) := by
  have ra := rd_is is v a hi ha
  have rb := rd_is is v b hi hb0
  have rc := rd_is is v c hi hc
  have wa := rd_val is v a hi hv ha
  have wb := rd_val is v b hi hv hb0
  have wc := rd_val is v c hi hv hc
  rw [ga] at ra
  rw [gb] at rb
  rw [gc] at rc
  rw [ua] at wa
  rw [ub] at wb
  rw [uc] at wc
  have hsc := kn_known is v
  have e : rewM ⟨o, a, b, c, k, n⟩ is v = ⟨24, a, 0, 0, aluN o vb k, n⟩ := by
    unfold rewM
    simp only [ga, gb, gc, ua, ub, uc]
    rw [if_neg (by omega), if_neg (by omega), if_neg (by rw [hB]; simp), if_pos ⟨h1, .inl (decide_eq_false (by omega))⟩, if_neg (by rw [show thrB o = false from decide_eq_false (by omega)]; simp)]
  rw [e]
  clear ga gb gc ua ub uc
  have har := rarith_fn o
  have him := rimm_fn o
  have hbr := rbranch_fn o
  subst h1
  clear e
  rw [hB, show immB o = true by unfold immB; exact decide_eq_true ho] at har
  rw [show branB o = false by unfold branB; exact decide_eq_false (by omega)] at hbr
  have hal := ralu_fn o vb k lb hk
  rw [← aluN_cast o vb k lb hk] at hal
  generalize aluN o vb k = V at *
  rw [hB] at hal
  generalize knC is v = KN at *
  refine fn_of_vc mixed tys_ok _ _ Try.func47 (by kernel_rfl) rfl Try.ntmps47 (by rw [Try.results47]) rfl ?_; dsimp only [argTm, argHl, Nat.zero_add, Nat.reduceAdd, List.length_nil, List.length_cons]
  dsimp only [Mi.C]
  (repeat' ((conv => whnf); first | (apply Sd.mk; · exact hsc)  |  ((with_reducible apply Ge.mk (α := SV)); · with_reducible first | exact ra | exact rb | exact rc | exact wa | exact wb | exact wc)  |  (refine vcall_pure (f := 49) (har) rfl ?_)  |  (refine vcall_pure (f := 71) (him) rfl ?_)  |  (refine vcall_pure (f := 30) (hbr) rfl ?_)  |  (refine vcall_pure (f := 70) (hal) rfl ?_) | (with_reducible apply sd_draw; · kernel_rfl) | (apply Sd.mk; · exact aSd) | ((with_reducible apply Vl.mk (α := Int)); · exact aAr) | ((with_reducible first | apply Vl.mk (α := Bool) | apply Vl.mk (α := Nat) | apply Vl.mk (α := ByteArray) | apply Ge.mk (α := Row) | apply Ge.mk (α := SV) | apply Ge.mk (α := AV)); · exact rfl) | (refine And.intro rfl ?_) | ((with_reducible first | apply Vl.mk (α := List SV) | apply Vl.mk (α := Ef) | apply Vl.mk (α := TV) | apply Ge.mk (α := List SV) | apply Sg.mk | apply Sk.mk); · exact aCl) | ((first | apply Br.mk | apply Gd.mk) <;> (intro hb; first | exact aKl hb | (simp only [d1, d2, beq_iff_eq, bne_iff_ne, d3, d4, d5, d6, Int.not_lt, Int.not_le, ge_iff_le, gt_iff_lt, ne_eq, d7] at hb; first | (exfalso; omega) | skip) | skip)))); (all_goals (try (conv => whnf)))
  all_goals
    first
      | exact fin_pure rfl rfl
      | trace_state
set_option maxHeartbeats 1000000 in
set_option maxRecDepth 100000 in
theorem rrwG_nI (o n : Int) (a b c k va vb vc : Nat) (is : List Bool) (v : List Nat) (ia ib ic : Bool) (hi : is.length = 16) (hv : v.length = 16) (hvr : ∀ y ∈ v, y < 4294967296) (ha : a < 16) (hb0 : b < 16) (hc : c < 16) (hk : k < 4294967296)
    (ga : is.getD a false = ia) (gb : is.getD b false = ib) (gc : is.getD c false = ic) (ua : v.getD a 0 = va) (ub : v.getD b 0 = vb) (uc : v.getD c 0 = vc) (la : va < 4294967296) (lb : vb < 4294967296) (lc : vc < 4294967296) (hB : aluB o = true) (ho : 16 ≤ o ∧ o ≤ 23) (h1 : ib = false) :
    Fn Try.prog 47 [.agg (Mi.C ⟨o, a, b, c, k, n⟩), .agg (knC is v)] [] (· = ⟨.a (.agg (Mi.C (rewM ⟨o, a, b, c, k, n⟩ is v))), [], []⟩) := by
  have ra := rd_is is v a hi ha
  have rb := rd_is is v b hi hb0
  have rc := rd_is is v c hi hc
  have wa := rd_val is v a hi hv ha
  have wb := rd_val is v b hi hv hb0
  have wc := rd_val is v c hi hv hc
  rw [ga] at ra
  rw [gb] at rb
  rw [gc] at rc
  rw [ua] at wa
  rw [ub] at wb
  rw [uc] at wc
  have hsc := kn_known is v
  have e : rewM ⟨o, a, b, c, k, n⟩ is v = ⟨o, a, b, c, k, n⟩ := by
    unfold rewM
    simp only [ga, gb, gc, ua, ub, uc]
    rw [if_neg (by omega), if_neg (by omega), if_neg (by rw [hB]; simp), if_neg (by rintro ⟨h, _⟩; rw [h1] at h; cases h), if_neg (by rintro ⟨h, _⟩; apply h; unfold immV; rw [if_neg (by omega), if_neg (by omega), if_neg (by omega), if_neg (by omega), if_neg (by omega), if_neg (by omega), if_neg (by omega), if_neg (by omega)])]
  rw [e]
  clear ga gb gc ua ub uc
  have har := rarith_fn o
  have him := rimm_fn o
  have hbr := rbranch_fn o
  subst h1
  rw [hB, show immB o = true by unfold immB; exact decide_eq_true ho] at har
  rw [show branB o = false by unfold branB; exact decide_eq_false (by omega)] at hbr
  generalize immV o = I at *
  generalize knC is v = KN at *
  refine fn_of_vc mixed tys_ok _ _ Try.func47 (by kernel_rfl) rfl Try.ntmps47 (by rw [Try.results47]) rfl ?_; dsimp only [argTm, argHl, Nat.zero_add, Nat.reduceAdd, List.length_nil, List.length_cons]
  dsimp only [Mi.C]
  (repeat' ((conv => whnf); first | (apply Sd.mk; · exact hsc)  |  ((with_reducible apply Ge.mk (α := SV)); · with_reducible first | exact ra | exact rb | exact rc | exact wa | exact wb | exact wc)  |  (refine vcall_pure (f := 49) (har) rfl ?_)  |  (refine vcall_pure (f := 71) (him) rfl ?_)  |  (refine vcall_pure (f := 30) (hbr) rfl ?_) | (with_reducible apply sd_draw; · kernel_rfl) | (apply Sd.mk; · exact aSd) | ((with_reducible apply Vl.mk (α := Int)); · exact aAr) | ((with_reducible first | apply Vl.mk (α := Bool) | apply Vl.mk (α := Nat) | apply Vl.mk (α := ByteArray) | apply Ge.mk (α := Row) | apply Ge.mk (α := SV) | apply Ge.mk (α := AV)); · exact rfl) | (refine And.intro rfl ?_) | ((with_reducible first | apply Vl.mk (α := List SV) | apply Vl.mk (α := Ef) | apply Vl.mk (α := TV) | apply Ge.mk (α := List SV) | apply Sg.mk | apply Sk.mk); · exact aCl) | ((first | apply Br.mk | apply Gd.mk) <;> (intro hb; first | exact aKl hb | (simp only [d1, d2, beq_iff_eq, bne_iff_ne, d3, d4, d5, d6, Int.not_lt, Int.not_le, ge_iff_le, gt_iff_lt, ne_eq, d7] at hb; first | (exfalso; omega) | skip) | skip)))); (all_goals (try (conv => whnf)))
  all_goals
    first
      | exact fin_pure rfl rfl
      | trace_state
set_option maxHeartbeats 1000000 in
set_option maxRecDepth 100000 in
theorem rrwG_n3 (o n : Int) (a b c k va vb vc : Nat) (is : List Bool) (v : List Nat) (ia ib ic : Bool) (hi : is.length = 16) (hv : v.length = 16) (hvr : ∀ y ∈ v, y < 4294967296) (ha : a < 16) (hb0 : b < 16) (hc : c < 16) (hk : k < 4294967296)
    (ga : is.getD a false = ia) (gb : is.getD b false = ib) (gc : is.getD c false = ic) (ua : v.getD a 0 = va) (ub : v.getD b 0 = vb) (uc : v.getD c 0 = vc) (la : va < 4294967296) (lb : vb < 4294967296) (lc : vc < 4294967296) (hB : aluB o = true) (ho : 1 ≤ o ∧ o ≤ 13) (h2 : ic = false) :
    Fn Try.prog 47 [.agg (Mi.C ⟨o, a, b, c, k, n⟩), .agg (knC is v)] [] (· = ⟨.a (.agg (Mi.C (rewM ⟨o, a, b, c, k, n⟩ is v))), [], []⟩) := by
  have ra := rd_is is v a hi ha
  have rb := rd_is is v b hi hb0
  have rc := rd_is is v c hi hc
  have wa := rd_val is v a hi hv ha
  have wb := rd_val is v b hi hv hb0
  have wc := rd_val is v c hi hv hc
  rw [ga] at ra
  rw [gb] at rb
  rw [gc] at rc
  rw [ua] at wa
  rw [ub] at wb
  rw [uc] at wc
  have hsc := kn_known is v
  have e : rewM ⟨o, a, b, c, k, n⟩ is v = ⟨o, a, b, c, k, n⟩ := by
    unfold rewM
    simp only [ga, gb, gc, ua, ub, uc]
    rw [if_neg (by omega), if_neg (by omega), if_neg (by rw [hB]; simp), if_neg (by rintro ⟨_, h⟩; rw [show thrB o = true from decide_eq_true ho, h2] at h; simp at h), if_neg (by rintro ⟨_, h⟩; rw [h2] at h; cases h)]
  rw [e]
  clear ga gb gc ua ub uc
  have har := rarith_fn o
  have him := rimm_fn o
  have hbr := rbranch_fn o
  subst h2
  rw [hB, show immB o = false by unfold immB; exact decide_eq_false (by omega)] at har
  rw [show branB o = false by unfold branB; exact decide_eq_false (by omega)] at hbr
  generalize immV o = I at *
  generalize knC is v = KN at *
  refine fn_of_vc mixed tys_ok _ _ Try.func47 (by kernel_rfl) rfl Try.ntmps47 (by rw [Try.results47]) rfl ?_; dsimp only [argTm, argHl, Nat.zero_add, Nat.reduceAdd, List.length_nil, List.length_cons]
  dsimp only [Mi.C]
  (repeat' ((conv => whnf); first | (apply Sd.mk; · exact hsc)  |  ((with_reducible apply Ge.mk (α := SV)); · with_reducible first | exact ra | exact rb | exact rc | exact wa | exact wb | exact wc)  |  (refine vcall_pure (f := 49) (har) rfl ?_)  |  (refine vcall_pure (f := 71) (him) rfl ?_)  |  (refine vcall_pure (f := 30) (hbr) rfl ?_) | (with_reducible apply sd_draw; · kernel_rfl) | (apply Sd.mk; · exact aSd) | ((with_reducible apply Vl.mk (α := Int)); · exact aAr) | ((with_reducible first | apply Vl.mk (α := Bool) | apply Vl.mk (α := Nat) | apply Vl.mk (α := ByteArray) | apply Ge.mk (α := Row) | apply Ge.mk (α := SV) | apply Ge.mk (α := AV)); · exact rfl) | (refine And.intro rfl ?_) | ((with_reducible first | apply Vl.mk (α := List SV) | apply Vl.mk (α := Ef) | apply Vl.mk (α := TV) | apply Ge.mk (α := List SV) | apply Sg.mk | apply Sk.mk); · exact aCl) | ((first | apply Br.mk | apply Gd.mk) <;> (intro hb; first | exact aKl hb | (simp only [d1, d2, beq_iff_eq, bne_iff_ne, d3, d4, d5, d6, Int.not_lt, Int.not_le, ge_iff_le, gt_iff_lt, ne_eq, d7] at hb; first | (exfalso; omega) | skip) | skip)))); (all_goals (try (conv => whnf)))
  all_goals
    first
      | exact fin_pure rfl rfl
      | trace_state
set_option maxHeartbeats 1000000 in
set_option maxRecDepth 100000 in
theorem rrwG_i3 (o n : Int) (a b c k va vb vc : Nat) (is : List Bool) (v : List Nat) (ia ib ic : Bool) (hi : is.length = 16) (hv : v.length = 16) (hvr : ∀ y ∈ v, y < 4294967296) (ha : a < 16) (hb0 : b < 16) (hc : c < 16) (hk : k < 4294967296)
    (ga : is.getD a false = ia) (gb : is.getD b false = ib) (gc : is.getD c false = ic) (ua : v.getD a 0 = va) (ub : v.getD b 0 = vb) (uc : v.getD c 0 = vc) (la : va < 4294967296) (lb : vb < 4294967296) (lc : vc < 4294967296) (hB : aluB o = true) (ho : 1 ≤ o ∧ o ≤ 13) (h1 : ib = false) (h2 : ic = true) (hI : immV o = 0) :
    Fn Try.prog 47 [.agg (Mi.C ⟨o, a, b, c, k, n⟩), .agg (knC is v)] [] (· = ⟨.a (.agg (Mi.C (rewM ⟨o, a, b, c, k, n⟩ is v))), [], []⟩) := by
  have ra := rd_is is v a hi ha
  have rb := rd_is is v b hi hb0
  have rc := rd_is is v c hi hc
  have wa := rd_val is v a hi hv ha
  have wb := rd_val is v b hi hv hb0
  have wc := rd_val is v c hi hv hc
  rw [ga] at ra
  rw [gb] at rb
  rw [gc] at rc
  rw [ua] at wa
  rw [ub] at wb
  rw [uc] at wc
  have hsc := kn_known is v
  have e : rewM ⟨o, a, b, c, k, n⟩ is v = ⟨o, a, b, c, k, n⟩ := by
    unfold rewM
    simp only [ga, gb, gc, ua, ub, uc]
    rw [if_neg (by omega), if_neg (by omega), if_neg (by rw [hB]; simp), if_neg (by rintro ⟨h, _⟩; rw [h1] at h; cases h), if_neg (by rintro ⟨h, _⟩; exact h hI)]
  rw [e]
  clear ga gb gc ua ub uc
  have har := rarith_fn o
  have him := rimm_fn o
  have hbr := rbranch_fn o
  subst h1
  subst h2
  rw [hB, show immB o = false by unfold immB; exact decide_eq_false (by omega)] at har
  rw [show branB o = false by unfold branB; exact decide_eq_false (by omega)] at hbr
  rw [hI] at him
  generalize knC is v = KN at *
  refine fn_of_vc mixed tys_ok _ _ Try.func47 (by kernel_rfl) rfl Try.ntmps47 (by rw [Try.results47]) rfl ?_; dsimp only [argTm, argHl, Nat.zero_add, Nat.reduceAdd, List.length_nil, List.length_cons]
  dsimp only [Mi.C]
  (repeat' ((conv => whnf); first | (apply Sd.mk; · exact hsc)  |  ((with_reducible apply Ge.mk (α := SV)); · with_reducible first | exact ra | exact rb | exact rc | exact wa | exact wb | exact wc)  |  (refine vcall_pure (f := 49) (har) rfl ?_)  |  (refine vcall_pure (f := 71) (him) rfl ?_)  |  (refine vcall_pure (f := 30) (hbr) rfl ?_) | (with_reducible apply sd_draw; · kernel_rfl) | (apply Sd.mk; · exact aSd) | ((with_reducible apply Vl.mk (α := Int)); · exact aAr) | ((with_reducible first | apply Vl.mk (α := Bool) | apply Vl.mk (α := Nat) | apply Vl.mk (α := ByteArray) | apply Ge.mk (α := Row) | apply Ge.mk (α := SV) | apply Ge.mk (α := AV)); · exact rfl) | (refine And.intro rfl ?_) | ((with_reducible first | apply Vl.mk (α := List SV) | apply Vl.mk (α := Ef) | apply Vl.mk (α := TV) | apply Ge.mk (α := List SV) | apply Sg.mk | apply Sk.mk); · exact aCl) | ((first | apply Br.mk | apply Gd.mk) <;> (intro hb; first | exact aKl hb | (simp only [d1, d2, beq_iff_eq, bne_iff_ne, d3, d4, d5, d6, Int.not_lt, Int.not_le, ge_iff_le, gt_iff_lt, ne_eq, d7] at hb; first | (exfalso; omega) | skip) | skip)))); (all_goals (try (conv => whnf)))
  all_goals
    first
      | exact fin_pure rfl rfl
      | trace_state
set_option maxHeartbeats 1000000 in
set_option maxRecDepth 100000 in
theorem rrwG_j3 (o n : Int) (a b c k va vb vc : Nat) (is : List Bool) (v : List Nat) (ia ib ic : Bool) (hi : is.length = 16) (hv : v.length = 16) (hvr : ∀ y ∈ v, y < 4294967296) (ha : a < 16) (hb0 : b < 16) (hc : c < 16) (hk : k < 4294967296)
    (ga : is.getD a false = ia) (gb : is.getD b false = ib) (gc : is.getD c false = ic) (ua : v.getD a 0 = va) (ub : v.getD b 0 = vb) (uc : v.getD c 0 = vc) (la : va < 4294967296) (lb : vb < 4294967296) (lc : vc < 4294967296) (hB : aluB o = true) (ho : 1 ≤ o ∧ o ≤ 13) (h1 : ib = false) (h2 : ic = true) (hI : immV o ≠ 0) (h : o ≠ 2) :
    Fn Try.prog 47 [.agg (Mi.C ⟨o, a, b, c, k, n⟩), .agg (knC is v)] [] (· = ⟨.a (.agg (Mi.C (rewM ⟨o, a, b, c, k, n⟩ is v))), [], []⟩) := by
  have ra := rd_is is v a hi ha
  have rb := rd_is is v b hi hb0
  have rc := rd_is is v c hi hc
  have wa := rd_val is v a hi hv ha
  have wb := rd_val is v b hi hv hb0
  have wc := rd_val is v c hi hv hc
  rw [ga] at ra
  rw [gb] at rb
  rw [gc] at rc
  rw [ua] at wa
  rw [ub] at wb
  rw [uc] at wc
  have hsc := kn_known is v
  have e : rewM ⟨o, a, b, c, k, n⟩ is v = ⟨immV o, a, b, 0, vc, n⟩ := by
    unfold rewM
    simp only [ga, gb, gc, ua, ub, uc]
    rw [if_neg (by omega), if_neg (by omega), if_neg (by rw [hB]; simp), if_neg (by rintro ⟨h, _⟩; rw [h1] at h; cases h), if_pos ⟨hI, h2⟩, if_neg h]
  rw [e]
  clear ga gb gc ua ub uc
  have har := rarith_fn o
  have him := rimm_fn o
  have hbr := rbranch_fn o
  subst h1
  subst h2
  rw [hB, show immB o = false by unfold immB; exact decide_eq_false (by omega)] at har
  rw [show branB o = false by unfold branB; exact decide_eq_false (by omega)] at hbr
  have hpos := (immV_rng o hI).1
  generalize immV o = I at *
  generalize knC is v = KN at *
  refine fn_of_vc mixed tys_ok _ _ Try.func47 (by kernel_rfl) rfl Try.ntmps47 (by rw [Try.results47]) rfl ?_; dsimp only [argTm, argHl, Nat.zero_add, Nat.reduceAdd, List.length_nil, List.length_cons]
  dsimp only [Mi.C]
  (repeat' ((conv => whnf); first | (apply Sd.mk; · exact hsc)  |  ((with_reducible apply Ge.mk (α := SV)); · with_reducible first | exact ra | exact rb | exact rc | exact wa | exact wb | exact wc)  |  (refine vcall_pure (f := 49) (har) rfl ?_)  |  (refine vcall_pure (f := 71) (him) rfl ?_)  |  (refine vcall_pure (f := 30) (hbr) rfl ?_) | (with_reducible apply sd_draw; · kernel_rfl) | (apply Sd.mk; · exact aSd) | ((with_reducible apply Vl.mk (α := Int)); · exact aAr) | ((with_reducible first | apply Vl.mk (α := Bool) | apply Vl.mk (α := Nat) | apply Vl.mk (α := ByteArray) | apply Ge.mk (α := Row) | apply Ge.mk (α := SV) | apply Ge.mk (α := AV)); · exact rfl) | (refine And.intro rfl ?_) | ((with_reducible first | apply Vl.mk (α := List SV) | apply Vl.mk (α := Ef) | apply Vl.mk (α := TV) | apply Ge.mk (α := List SV) | apply Sg.mk | apply Sk.mk); · exact aCl) | ((first | apply Br.mk | apply Gd.mk) <;> (intro hb; first | exact aKl hb | (simp only [d1, d2, beq_iff_eq, bne_iff_ne, d3, d4, d5, d6, Int.not_lt, Int.not_le, ge_iff_le, gt_iff_lt, ne_eq, d7] at hb; first | (exfalso; omega) | skip) | skip)))); (all_goals (try (conv => whnf)))
  all_goals
    first
      | exact fin_pure rfl rfl
      | trace_state
set_option maxHeartbeats 1000000 in
set_option maxRecDepth 100000 in
theorem rrwG_s3 (o n : Int) (a b c k va vb vc : Nat) (is : List Bool) (v : List Nat) (ia ib ic : Bool) (hi : is.length = 16) (hv : v.length = 16) (hvr : ∀ y ∈ v, y < 4294967296) (ha : a < 16) (hb0 : b < 16) (hc : c < 16) (hk : k < 4294967296)
    (ga : is.getD a false = ia) (gb : is.getD b false = ib) (gc : is.getD c false = ic) (ua : v.getD a 0 = va) (ub : v.getD b 0 = vb) (uc : v.getD c 0 = vc) (la : va < 4294967296) (lb : vb < 4294967296) (lc : vc < 4294967296) (hB : aluB o = true) (ho : o = 2) (h1 : ib = false) (h2 : ic = true) :
    Fn Try.prog 47 [.agg (Mi.C ⟨o, a, b, c, k, n⟩), .agg (knC is v)] [] (· = ⟨.a (.agg (Mi.C (rewM ⟨o, a, b, c, k, n⟩ is v))), [], []⟩) := by
  have ra := rd_is is v a hi ha
  have rb := rd_is is v b hi hb0
  have rc := rd_is is v c hi hc
  have wa := rd_val is v a hi hv ha
  have wb := rd_val is v b hi hv hb0
  have wc := rd_val is v c hi hv hc
  rw [ga] at ra
  rw [gb] at rb
  rw [gc] at rc
  rw [ua] at wa
  rw [ub] at wb
  rw [uc] at wc
  have hsc := kn_known is v
  have e : rewM ⟨o, a, b, c, k, n⟩ is v = ⟨16, a, b, 0, (4294967296 - vc) % 4294967296, n⟩ := by
    unfold rewM
    simp only [ga, gb, gc, ua, ub, uc]
    subst ho
    rw [if_neg (by omega), if_neg (by omega), if_neg (by rw [hB]; simp), if_neg (by rintro ⟨h, _⟩; rw [h1] at h; cases h), if_pos ⟨by decide, h2⟩, if_pos rfl]; rfl
  rw [e]
  clear ga gb gc ua ub uc
  have har := rarith_fn o
  have him := rimm_fn o
  have hbr := rbranch_fn o
  subst h1
  subst h2
  rw [hB, show immB o = false by unfold immB; exact decide_eq_false (by omega)] at har
  rw [show branB o = false by unfold branB; exact decide_eq_false (by omega)] at hbr
  subst ho
  change Fn _ _ _ _ (· = ⟨.a (.s (.int .i64 16)), _, _⟩) at him
  have q1 : IntKind.u32.wrap (0 - (vc : Int)) = (((4294967296 - vc) % 4294967296 : Nat) : Int) := by rw [wu32']; omega
  generalize knC is v = KN at *
  refine fn_of_vc mixed tys_ok _ _ Try.func47 (by kernel_rfl) rfl Try.ntmps47 (by rw [Try.results47]) rfl ?_; dsimp only [argTm, argHl, Nat.zero_add, Nat.reduceAdd, List.length_nil, List.length_cons]
  dsimp only [Mi.C]
  (repeat' ((conv => whnf); first | (apply Sd.mk; · exact hsc)  |  ((with_reducible apply Ge.mk (α := SV)); · with_reducible first | exact ra | exact rb | exact rc | exact wa | exact wb | exact wc)  |  (refine vcall_pure (f := 49) (har) rfl ?_)  |  (refine vcall_pure (f := 71) (him) rfl ?_)  |  (refine vcall_pure (f := 30) (hbr) rfl ?_)  |  ((with_reducible apply Vl.mk (α := Int)); · with_reducible exact q1) | (with_reducible apply sd_draw; · kernel_rfl) | (apply Sd.mk; · exact aSd) | ((with_reducible apply Vl.mk (α := Int)); · exact aAr) | ((with_reducible first | apply Vl.mk (α := Bool) | apply Vl.mk (α := Nat) | apply Vl.mk (α := ByteArray) | apply Ge.mk (α := Row) | apply Ge.mk (α := SV) | apply Ge.mk (α := AV)); · exact rfl) | (refine And.intro rfl ?_) | ((with_reducible first | apply Vl.mk (α := List SV) | apply Vl.mk (α := Ef) | apply Vl.mk (α := TV) | apply Ge.mk (α := List SV) | apply Sg.mk | apply Sk.mk); · exact aCl) | ((first | apply Br.mk | apply Gd.mk) <;> (intro hb; first | exact aKl hb | (simp only [d1, d2, beq_iff_eq, bne_iff_ne, d3, d4, d5, d6, Int.not_lt, Int.not_le, ge_iff_le, gt_iff_lt, ne_eq, d7] at hb; first | (exfalso; omega) | skip) | skip)))); (all_goals (try (conv => whnf)))
  all_goals
    first
      | exact fin_pure rfl rfl
      | trace_state
theorem rrwG_fn (o n : Int) (a b c k : Nat) (is : List Bool) (v : List Nat) (hi : is.length = 16) (hv : v.length = 16) (hvr : ∀ y ∈ v, y < 4294967296) (ha : a < 16) (hb : b < 16) (hc : c < 16) (hk : k < 4294967296) :
    Fn Try.prog 47 [.agg (Mi.C ⟨o, a, b, c, k, n⟩), .agg (knC is v)] [] (· = ⟨.a (.agg (Mi.C (rewM ⟨o, a, b, c, k, n⟩ is v))), [], []⟩) := by
  have la := getD_lt hvr a
  have lb := getD_lt hvr b
  have lc := getD_lt hvr c
  by_cases h1 : 32 ≤ o ∧ o ≤ 36
  · cases h2 : is.getD b false with
    | true =>
      by_cases h3 : b = 0
      · exact rrwG_memz o n a b c k _ _ _ is v _ _ _ hi hv hvr ha hb hc hk rfl h2 rfl rfl rfl rfl la lb lc h1 h3
      · exact rrwG_mem1 o n a b c k _ _ _ is v _ _ _ hi hv hvr ha hb hc hk rfl h2 rfl rfl rfl rfl la lb lc h1 rfl h3
    | false => exact rrwG_mem0 o n a b c k _ _ _ is v _ _ _ hi hv hvr ha hb hc hk rfl h2 rfl rfl rfl rfl la lb lc h1 rfl
  by_cases h2 : 40 ≤ o ∧ o ≤ 45
  · cases h3 : is.getD a false with
    | true =>
      cases h4 : is.getD b false with
      | true => exact rrwG_br1 o n a b c k _ _ _ is v _ _ _ hi hv hvr ha hb hc hk h3 h4 rfl rfl rfl rfl la lb lc h2 rfl rfl _ rfl
      | false => exact rrwG_brb o n a b c k _ _ _ is v _ _ _ hi hv hvr ha hb hc hk h3 h4 rfl rfl rfl rfl la lb lc h2 rfl rfl
    | false => exact rrwG_bra o n a b c k _ _ _ is v _ _ _ hi hv hvr ha hb hc hk h3 rfl rfl rfl rfl rfl la lb lc h2 rfl
  cases hB : aluB o with
  | false => exact rrwG_oth o n a b c k _ _ _ is v _ _ _ hi hv hvr ha hb hc hk rfl rfl rfl rfl rfl rfl la lb lc h1 h2 hB
  | true =>
    rcases alu_rng hB with h3 | h3
    · cases h4 : is.getD c false with
      | false => exact rrwG_n3 o n a b c k _ _ _ is v _ _ _ hi hv hvr ha hb hc hk rfl rfl h4 rfl rfl rfl la lb lc hB h3 rfl
      | true =>
        cases h5 : is.getD b false with
        | true => exact rrwG_k3 o n a b c k _ _ _ is v _ _ _ hi hv hvr ha hb hc hk rfl h5 h4 rfl rfl rfl la lb lc hB h3 rfl rfl
        | false =>
          by_cases h6 : immV o = 0
          · exact rrwG_i3 o n a b c k _ _ _ is v _ _ _ hi hv hvr ha hb hc hk rfl h5 h4 rfl rfl rfl la lb lc hB h3 rfl rfl h6
          · by_cases h7 : o = 2
            · exact rrwG_s3 o n a b c k _ _ _ is v _ _ _ hi hv hvr ha hb hc hk rfl h5 h4 rfl rfl rfl la lb lc hB h7 rfl rfl
            · exact rrwG_j3 o n a b c k _ _ _ is v _ _ _ hi hv hvr ha hb hc hk rfl h5 h4 rfl rfl rfl la lb lc hB h3 rfl rfl h6 h7
    · cases h5 : is.getD b false with
      | true => exact rrwG_kI o n a b c k _ _ _ is v _ _ _ hi hv hvr ha hb hc hk rfl h5 rfl rfl rfl rfl la lb lc hB h3 rfl
      | false => exact rrwG_nI o n a b c k _ _ _ is v _ _ _ hi hv hvr ha hb hc hk rfl h5 rfl rfl rfl rfl la lb lc hB h3 rfl
end Go.Proofs.Ytcaddlighhiepaa

/- The reference's Fold of a block that may stand. -/
namespace Go.Proofs.Ytcaddlighhiepaa
open Go Go.RowKit
set_option linter.unusedSimpArgs false
set_option linter.unusedVariables false

def rf1 (N A : Nat) (L : Int) (LL : List SV) (i : Nat) (KN RW : List SV) : St :=
  ⟨[(1, .a (.s (.ptr 1 0))), (2, .a (.s (.ptr 2 0))), (3, .a (.s (.ptr 3 0))), (4, .a (.s (.ptr 4 0))), (5, .a (.s (.int .i64 i)))],
   [(0, some ⟨false, 6, LL⟩), (1, some ⟨true, 1, [.int .u32 A, .int .i64 L, .sl 0 0 N]⟩), (2, some ⟨true, 1, [.int .u32 0, .int .i64 0, .nilsl]⟩), (3, some ⟨true, 1, [.int .u32 A, .int .i64 L, .sl 5 0 N]⟩), (4, some ⟨true, 1, KN⟩), (5, some ⟨true, 6, RW⟩)], [0]⟩
def rf2 (N A : Nat) (L : Int) (LL : List SV) (i : Nat) (RW : List SV) (p : Int) (r : Nat) (R : List SV) : St :=
  ⟨[(2, .a (.s (.ptr 1 0))), (3, .a (.s (.ptr 2 0))), (6, .a (.s (.sl 4 0 r))), (7, .a (.s (.int .i64 p))), (8, .a (.s (.int .i64 i)))],
   [(0, some ⟨false, 6, LL⟩), (1, some ⟨true, 1, [.int .u32 0, .int .i64 0, .nilsl]⟩), (2, some ⟨true, 1, [.int .u32 A, .int .i64 L, .sl 3 0 N]⟩), (3, some ⟨true, 6, RW⟩), (4, some ⟨true, 6, R⟩)], [0]⟩
set_option maxHeartbeats 600000 in
set_option maxRecDepth 100000 in
theorem rfoldI_fn (A : Nat) (hA : A < 4294967296) (L : Int) (l : List Mi) (N K : Nat) (hN : l.length = N) (hN2 : N ≤ 1000000) (h0 : 0 < N) (hok : ∀ m ∈ l, MiOk m) (hmv : mayV A L (l.map Mi.z) = true) (hK : (fldL l).length = K) :
    Fn Try.prog 23 [.agg [.int .u32 A, .int .i64 L, .sl 0 0 N]] [⟨false, 6, mcs l⟩] (· = ⟨.a (.agg [.int .u32 A, .int .i64 L, .sl 1 0 K]), [], [⟨true, 6, mcs (fldL l)⟩]⟩) := by
  have hmay := bmayI_fn A hA L l N hN hN2 hmv
  have hn := maySum_n l 0 L ((mayV_iff _ _ _).1 hmv).2
  have hsc := mcs_scal l
  have hLl := mcs_len l
  have hLk := mcs_known l
  generalize hLL : mcs l = LL at *
  refine fn_of_vc mixed tys_ok _ _ Try.func23 (by kernel_rfl) rfl Try.ntmps23 (by rw [Try.results23]) rfl ?_; dsimp only [argTm, argHl, Nat.zero_add, Nat.reduceAdd, List.length_nil, List.length_cons]
  (repeat' ((conv => whnf); first | (apply Sk.mk; · exact sk_all LL (by show LL.length = N * 6; omega) hLk)  |  (apply Sd.mk; · refine ⟨rfl, rfl, rfl, ?_, ?_⟩ <;> first | omega | (show (0 + N) * 48 ≤ _; omega))  |  ((with_reducible apply Vl.mk (α := Nat)); · exact Nat.zero_add N)  |  ((with_reducible apply Vl.mk (α := List SV)); · exact List.nil_append LL)  |  (refine vcall_det (f := 38) hmay [⟨_, 0⟩] [(_, ⟨false, 6, LL⟩)] rfl ⟨rfl, trivial⟩ ⟨rfl, rowM_ro hsc, trivial⟩ ⟨rfl, noUp⟩ ?_) | (with_reducible apply sd_draw; · kernel_rfl) | (apply Sd.mk; · exact aSd) | ((with_reducible apply Vl.mk (α := Int)); · exact aAr) | ((with_reducible first | apply Vl.mk (α := Bool) | apply Vl.mk (α := Nat) | apply Vl.mk (α := ByteArray) | apply Ge.mk (α := Row) | apply Ge.mk (α := SV) | apply Ge.mk (α := AV)); · exact rfl) | (refine And.intro rfl ?_) | ((with_reducible first | apply Vl.mk (α := List SV) | apply Vl.mk (α := Ef) | apply Vl.mk (α := TV) | apply Ge.mk (α := List SV) | apply Sg.mk | apply Sk.mk); · exact aCl) | ((first | apply Br.mk | apply Gd.mk) <;> (intro hb; first | exact aKl hb | (simp only [d1, d2, beq_iff_eq, bne_iff_ne, d3, d4, d5, d6, Int.not_lt, Int.not_le, ge_iff_le, gt_iff_lt, ne_eq, d7] at hb; first | (exfalso; omega) | skip) | skip)))); (all_goals (try (conv => whnf)))
  refine Lp.inv (fun mm σ => ∃ (i : Nat) (pre : List Mi) (is : List Bool) (v : List Nat), mm + i = N ∧ pre.length = i ∧ is.length = 16 ∧ v.length = 16 ∧ (∀ y ∈ v, y < 4294967296) ∧ pre ++ rwL (l.drop i) is v = rwL l isb0 val0 ∧ σ = rf1 N A L LL i (knC is v) (mcs (pre ++ l.drop i))) ?_ ?_
  · refine ⟨N, rf1 N A L LL 0 (knC isb0 val0) LL, ?_, 0, [], isb0, val0, by omega, rfl, rfl, rfl, by decide, rfl, by rw [← hLL]; rfl⟩
    apply wk_of (m := [(0, some 0), (1, some 65536), (2, some 65600), (3, some 131648), (4, some 262144), (5, some 131520)])
    · repeat' (first | exact tml_nil | apply tml_cons)
      all_goals first | exact tvm_a (avm_s (svm_same rfl)) | exact tvm_a (avm_s (svm_ptr rfl)) | exact tvm_a (avm_s (svm_sl rfl)) | exact tvm_a (avm_s (svm_slnil rfl))
    · show HlS _ _ [] _
      refine hls_row (rowmt_mk rfl rfl rfl rfl (svsm_scal hsc)) ?_
      refine hls_row (rowmt_mk rfl rfl rfl rfl (.cons (svm_same rfl) (.cons (svm_same rfl) (.cons (svm_sl rfl) .nil)))) ?_
      refine hls_row (rowmt_mk rfl rfl rfl rfl (svsm_scal rfl)) ?_
      refine hls_row (rowmt_mk rfl rfl rfl rfl (.cons (svm_same rfl) (.cons (svm_same rfl) (.cons (svm_sl rfl) .nil)))) ?_
      refine hls_row (rowmt_mk rfl rfl rfl rfl (svsm_scal rfl)) ?_
      refine hls_row (rowmt_mk rfl rfl rfl rfl (svsm_scal hsc)) ?_
      exact hls_nil
    · rfl
  · rintro mm σ ⟨i, pre, is, v, hmi, hpl, hi, hv, hvr, hinv, rfl⟩
    unfold rf1
    by_cases hiN : i < N
    · obtain ⟨⟨o, a, b, c, k, n⟩, hm⟩ : ∃ m, l[i]? = some m := ⟨l[i]'(by omega), List.getElem?_eq_getElem (by omega)⟩
      have hmok : a < 16 ∧ b < 16 ∧ c < 16 ∧ k < 4294967296 := hok _ (List.mem_of_getElem? hm)
      have hd : l.drop i = ⟨o, a, b, c, k, n⟩ :: l.drop (i + 1) := by
        have hlt := (List.getElem?_eq_some_iff.1 hm).1
        rw [List.drop_eq_getElem_cons hlt]
        congr 1
        exact (List.getElem?_eq_some_iff.1 hm).2
      have hrw := rrwG_fn o n a b c k is v hi hv hvr hmok.1 hmok.2.1 hmok.2.2.1 hmok.2.2.2
      have hrok := rewM_ok ⟨o, a, b, c, k, n⟩ is v hvr ⟨hmok.1, hmok.2.1, hmok.2.2.1, hmok.2.2.2⟩
      have hstep : rwL (l.drop i) is v = rewM ⟨o, a, b, c, k, n⟩ is v :: rwL (l.drop (i + 1)) (aftI (rewM ⟨o, a, b, c, k, n⟩ is v).o (rewM ⟨o, a, b, c, k, n⟩ is v).a is) (aftV (rewM ⟨o, a, b, c, k, n⟩ is v).o (rewM ⟨o, a, b, c, k, n⟩ is v).a (rewM ⟨o, a, b, c, k, n⟩ is v).k v) := by rw [hd]; rfl
      obtain ⟨⟨o2, a2, b2, c2, k2, n2⟩, hm2⟩ : ∃ m2, rewM ⟨o, a, b, c, k, n⟩ is v = m2 := ⟨_, rfl⟩
      rw [hm2] at hrw hrok hstep
      dsimp only at hrok hstep
      have haf := rlearn_fn o2 n2 a2 b2 c2 k2 is v hi hv hrok.1
      have hal := aft_len o2 a2 k2 is v
      have har := aft_rng o2 a2 k2 v hrok.2.2.2.1 hvr
      have seg := mcs_seg (pre ++ l.drop i) i ⟨o, a, b, c, k, n⟩ (by rw [List.getElem?_append_right (by omega), hpl, Nat.sub_self, hd]; rfl)
      have hset := mcs_set (pre ++ l.drop i) i ⟨o2, a2, b2, c2, k2, n2⟩ (by rw [List.length_append, hd]; simp; omega)
      have hre : (pre ++ l.drop i).set i ⟨o2, a2, b2, c2, k2, n2⟩ = (pre ++ [⟨o2, a2, b2, c2, k2, n2⟩]) ++ l.drop (i + 1) := by
        rw [List.set_append_right _ _ (by omega), hpl, Nat.sub_self, hd]; simp
      rw [hre] at hset
      have seg2 := mcs_seg ((pre ++ [⟨o2, a2, b2, c2, k2, n2⟩]) ++ l.drop (i + 1)) i ⟨o2, a2, b2, c2, k2, n2⟩ (by rw [List.append_assoc, List.getElem?_append_right (by omega), hpl, Nat.sub_self]; rfl)
      have hRs := mcs_scal (pre ++ l.drop i)
      have hRs2 := mcs_scal ((pre ++ [⟨o2, a2, b2, c2, k2, n2⟩]) ++ l.drop (i + 1))
      have hRl : (mcs (pre ++ l.drop i)).length = N * 6 := by
        rw [mcs_len, List.length_append, List.length_drop, hpl]; omega
      have hinv2 : (pre ++ [⟨o2, a2, b2, c2, k2, n2⟩]) ++ rwL (l.drop (i + 1)) (aftI o2 a2 is) (aftV o2 a2 k2 v) = rwL l isb0 val0 := by rw [← hinv, hstep, List.append_assoc]; rfl
      have kl : (knC is v).length = 32 := by unfold knC bsv; simp [hi, hv]
      have kl2 : (knC (aftI o2 a2 is) (aftV o2 a2 k2 v)).length = 32 := by unfold knC bsv; simp [hal, hi, hv]
      have kk := kn_known (aftI o2 a2 is) (aftV o2 a2 k2 v)
      have hsa : setAll (knC is v) 0 (knC (aftI o2 a2 is) (aftV o2 a2 k2 v)) = knC (aftI o2 a2 is) (aftV o2 a2 k2 v) := setAll_all (by rw [kl, kl2])
      have q2 : IntKind.i64.wrap ((i : Int) + 1) = ((i + 1 : Nat) : Int) := by rw [wi64 (by omega) (by omega)]; omega
      have x1 : 0 + ((i : Nat) : Int).toNat * ty59.size = i * 6 := by show 0 + ((i : Nat) : Int).toNat * 6 = _; omega
      have ksc : ∀ (i' : List Bool) (v' : List Nat), allScal (knC i' v') = true := fun i' v' => by
        unfold knC
        refine allScal_append ?_ (wsv_scal v')
        induction i' with
        | nil => rfl
        | cons x l ih => exact ih
      have ks1 := ksc is v
      have ks2 := ksc (aftI o2 a2 is) (aftV o2 a2 k2 v)
      dsimp only [Mi.C] at seg seg2 hset hrw haf
      generalize hK1 : knC is v = KN at *
      generalize hK2 : knC (aftI o2 a2 is) (aftV o2 a2 k2 v) = KN2 at *
      generalize hR1 : mcs (pre ++ l.drop i) = RW at *
      generalize hR2 : mcs ((pre ++ [⟨o2, a2, b2, c2, k2, n2⟩]) ++ l.drop (i + 1)) = RW2 at *
      clear hmay
      (repeat' ((conv => whnf); first | ((with_reducible apply Vl.mk (α := Int)); · with_reducible exact q2)  |  ((with_reducible apply Vl.mk (α := Nat)); · with_reducible exact x1)  |  (refine vcall_pure (f := 47) hrw (by simp [renA, renS, ren_scal ks1, capA]) ?_)  |  (refine vcall_pure (f := 48) haf (by simp [renA, renS, ren_scal ks1, capA]) ?_)  |  (apply Sd.mk; · first | exact ⟨kl2, kk, rfl, by show 0 + KN2.length ≤ KN.length; omega⟩ | (refine ⟨rfl, rfl, rfl, ?_⟩; show i * 6 + 6 ≤ RW.length; omega))  |  ((with_reducible apply Vl.mk (α := List SV)); · with_reducible first | exact hsa | exact hset)  |  (apply Sg.mk; · first | exact seg | exact seg2 | exact sg_all KN kl) | (with_reducible apply sd_draw; · kernel_rfl) | (apply Sd.mk; · exact aSd) | ((with_reducible apply Vl.mk (α := Int)); · exact aAr) | ((with_reducible first | apply Vl.mk (α := Bool) | apply Vl.mk (α := Nat) | apply Vl.mk (α := ByteArray) | apply Ge.mk (α := Row) | apply Ge.mk (α := SV) | apply Ge.mk (α := AV)); · exact rfl) | (refine And.intro rfl ?_) | ((with_reducible first | apply Vl.mk (α := List SV) | apply Vl.mk (α := Ef) | apply Vl.mk (α := TV) | apply Ge.mk (α := List SV) | apply Sg.mk | apply Sk.mk); · exact aCl) | ((first | apply Br.mk | apply Gd.mk) <;> (intro hb; first | exact aKl hb | (simp only [d1, d2, beq_iff_eq, bne_iff_ne, d3, d4, d5, d6, Int.not_lt, Int.not_le, ge_iff_le, gt_iff_lt, ne_eq, d7] at hb; first | (exfalso; omega) | skip) | skip)))); (all_goals (try (conv => whnf)))
      all_goals first
        | (refine ⟨mm - 1, rf1 N A L LL (i + 1) KN2 RW2, by omega, ?_, i + 1, pre ++ [⟨o2, a2, b2, c2, k2, n2⟩], aftI o2 a2 is, aftV o2 a2 k2 v, by omega, by simp; omega, by omega, by omega, har, hinv2, by rw [hK2, hR2]; rfl⟩
           apply wk_of (m := [(0, some 0), (1, some 1), (2, some 2), (3, some 3), (4, some 4), (5, some 5)])
           · repeat' (first | exact tml_nil | apply tml_cons)
             all_goals first | exact tvm_a (avm_s (svm_same rfl)) | exact tvm_a (avm_s (svm_ptr rfl)) | exact tvm_a (avm_s (svm_sl rfl)) | exact tvm_a (avm_s (svm_slnil rfl))
           · show HlS _ _ [] _
             refine hls_row (rowmt_mk rfl rfl rfl rfl (svsm_scal hsc)) ?_
             refine hls_row (rowmt_mk rfl rfl rfl rfl (.cons (svm_same rfl) (.cons (svm_same rfl) (.cons (svm_sl rfl) .nil)))) ?_
             refine hls_row (rowmt_mk rfl rfl rfl rfl (svsm_scal rfl)) ?_
             refine hls_row (rowmt_mk rfl rfl rfl rfl (.cons (svm_same rfl) (.cons (svm_same rfl) (.cons (svm_sl rfl) .nil)))) ?_
             refine hls_row (rowmt_mk rfl rfl rfl rfl (svsm_scal ks2)) ?_
             refine hls_row (rowmt_mk rfl rfl rfl rfl (svsm_scal hRs2)) ?_
             exact hls_nil
           · rfl
           )
        | trace_state
    · have hiN2 : i = N := by omega
      subst hiN2
      have hdn : l.drop i = [] := List.drop_eq_nil_of_le (by omega)
      have hpre : pre = rwL l isb0 val0 := by rw [← hinv, hdn]; show pre = pre ++ []; rw [List.append_nil]
      rw [hdn, List.append_nil]
      have hps := mcs_scal pre
      have hnp : ∀ m ∈ pre, 1 ≤ m.n ∧ m.n ≤ 16 := fun m hm => by
        rw [hpre] at hm
        obtain ⟨q, h1, h2⟩ := rwL_n l _ _ m hm
        rw [h2]; exact hn q h1
      have ks1 : allScal (knC is v) = true := by
        unfold knC
        refine allScal_append ?_ (wsv_scal v)
        clear hinv hi
        induction is with
        | nil => rfl
        | cons x l ih => exact ih
      have hlen0 := mrg_pos pre 0 (by omega)
      unfold fldL at hK ⊢
      rw [← hpre] at hK ⊢
      clear hinv hdn hpre hn hok hmv
      generalize knC is v = KN at *
      clear hmay
      subst hK
      clear hi hv hvr hN hLl hLk hLL hmi hiN
      generalize hpp : pre = pl at *
      clear hpp
      generalize hii : i = N at *
      clear hii
      have hpos : 0 < N := h0
      (repeat' ((conv => whnf); first | (with_reducible apply sd_draw; · kernel_rfl) | (apply Sd.mk; · exact aSd) | ((with_reducible apply Vl.mk (α := Int)); · exact aAr) | ((with_reducible first | apply Vl.mk (α := Bool) | apply Vl.mk (α := Nat) | apply Vl.mk (α := ByteArray) | apply Ge.mk (α := Row) | apply Ge.mk (α := SV) | apply Ge.mk (α := AV)); · exact rfl) | (refine And.intro rfl ?_) | ((with_reducible first | apply Vl.mk (α := List SV) | apply Vl.mk (α := Ef) | apply Vl.mk (α := TV) | apply Ge.mk (α := List SV) | apply Sg.mk | apply Sk.mk); · exact aCl) | ((first | apply Br.mk | apply Gd.mk) <;> (intro hb; first | exact aKl hb | (simp only [d1, d2, beq_iff_eq, bne_iff_ne, d3, d4, d5, d6, Int.not_lt, Int.not_le, ge_iff_le, gt_iff_lt, ne_eq, d7] at hb; first | (exfalso; omega) | skip) | skip)))); (all_goals (try (conv => whnf)))
      refine Lp.inv (fun mm σ => ∃ (i : Nat) (p : Int) (R : List Mi), mm + i = N ∧ 0 ≤ p ∧ p ≤ 1000000 * i ∧ R.length ≤ i ∧ R ++ mrg (pl.drop i) p = mrg pl 0 ∧ σ = rf2 N A L LL i (mcs pl) p R.length (mcs R)) ?_ ?_
      · refine ⟨N, rf2 N A L LL 0 (mcs pl) 0 0 [], ?_, 0, 0, [], by omega, by omega, by omega, by simp, by simp, rfl⟩
        apply wk_of (m := [(0, some 0), (1, some 2), (2, some 3), (3, some 5), (4, none)])
        · repeat' (first | exact tml_nil | apply tml_cons)
          all_goals first | exact tvm_a (avm_s (svm_same rfl)) | exact tvm_a (avm_s (svm_ptr rfl)) | exact tvm_a (avm_s (svm_sl rfl)) | exact tvm_a (avm_s (svm_slnil rfl))
        · show HlS _ _ [] _
          refine hls_row (rowmt_mk rfl rfl rfl rfl (svsm_scal hsc)) ?_
          refine hls_row (rowmt_mk rfl rfl rfl rfl (svsm_scal rfl)) ?_
          refine hls_row (rowmt_mk rfl rfl rfl rfl (.cons (svm_same rfl) (.cons (svm_same rfl) (.cons (svm_sl rfl) .nil)))) ?_
          refine hls_row (rowmt_mk rfl rfl rfl rfl (svsm_scal hps)) ?_
          refine hls_row (rowmt_nil rfl rfl) ?_
          exact hls_nil
        · rfl
      · rintro mm σ ⟨i, p, R, hmi, hp0, hp1, hRl, hR, rfl⟩
        unfold rf2
        by_cases hi : i < N
        · obtain ⟨⟨o, a, b, c, k, n⟩, hm⟩ : ∃ m, pl[i]? = some m := ⟨pl[i]'(by omega), List.getElem?_eq_getElem (by omega)⟩
          have hmn := hnp _ (List.mem_of_getElem? hm)
          have seg := mcs_seg pl i _ hm
          have hd : pl.drop i = ⟨o, a, b, c, k, n⟩ :: pl.drop (i + 1) := by
            have hlt := (List.getElem?_eq_some_iff.1 hm).1
            rw [List.drop_eq_getElem_cons hlt]
            congr 1
            exact (List.getElem?_eq_some_iff.1 hm).2
          dsimp only [Mi.C] at seg
          dsimp only at hmn
          have q1 : IntKind.i64.wrap (n + p) = n + p := wi64 (by omega) (by omega)
          have q2 : IntKind.i64.wrap ((i : Int) + 1) = ((i + 1 : Nat) : Int) := by rw [wi64 (by omega) (by omega)]; omega
          have q3 := q2
          have x1 : 0 + ((i : Nat) : Int).toNat * ty59.size = i * 6 := by show 0 + ((i : Nat) : Int).toNat * 6 = _; omega
          have hRs := mcs_scal R
          have hRk := mcs_known R
          have hRl := mcs_len R
          have happ : mcs R ++ [.int .i64 o, .int .i64 a, .int .i64 b, .int .i64 c, .int .u32 k, .int .i64 (n + p)] = mcs (R ++ [⟨o, a, b, c, k, n + p⟩]) := by rw [mcs_app]; rfl
          have hRs2 := mcs_scal (R ++ [⟨o, a, b, c, k, n + p⟩])
          have car := rarith_fn o
          generalize immB o = IB at *
          by_cases hi2 : i + 1 < N
          · obtain ⟨⟨o', a', b', c', k', n'⟩, hm'⟩ : ∃ m, pl[i + 1]? = some m := ⟨pl[i + 1]'(by omega), List.getElem?_eq_getElem (by omega)⟩
            have seg2 := mcs_seg pl (i + 1) _ hm'
            dsimp only [Mi.C] at seg2
            have x2 : 0 + ((i + 1 : Nat) : Int).toNat * ty59.size = (i + 1) * 6 := by show 0 + ((i + 1 : Nat) : Int).toNat * 6 = _; omega
            have hd2 : pl.drop (i + 1) = ⟨o', a', b', c', k', n'⟩ :: pl.drop (i + 2) := by
              have hlt := (List.getElem?_eq_some_iff.1 hm').1
              rw [List.drop_eq_getElem_cons hlt]
              congr 1
              exact (List.getElem?_eq_some_iff.1 hm').2
            cases hB : aluB o <;> cases hu : useV ⟨o, a, b, c, k, n⟩ ⟨o', a', b', c', k', n'⟩
            · have hup : ¬ (o = 24 ∧ (a = 0 ∨ o' = 24 ∧ a' = a)) := by
                unfold useV at hu
                dsimp only at hu
                rw [hB] at hu
                by_cases h24 : o = 24
                · rw [if_pos h24, decide_eq_false_iff_not] at hu; omega
                · rw [if_neg h24] at hu; omega
              rw [hB] at car
              have hR2 : (R ++ [⟨o, a, b, c, k, n + p⟩]) ++ mrg (pl.drop (i + 1)) 0 = mrg pl 0 := by
                rw [← hR, hd, hd2, mrg, if_neg (by rw [hu]; simp), List.append_assoc]; rfl
              generalize hR2d : R ++ [⟨o, a, b, c, k, n + p⟩] = R2 at *
              have hR2l : R2.length = R.length + 1 := by rw [← hR2d]; simp
              clear hu
              generalize hRR : mcs R = RR at *
              generalize hRR2 : mcs R2 = RR2 at *
              generalize mcs pl = PLL at *
              (repeat' ((conv => whnf); first | ((with_reducible apply Vl.mk (α := Int)); · with_reducible first | exact q1 | exact q2 | exact q3)  |  ((with_reducible apply Vl.mk (α := Nat)); · with_reducible first | exact x1 | exact x2)  |  (apply Sd.mk; · refine ⟨rfl, rfl, ?_, ?_, ?_⟩; (focus (show RR.length = R.length * 6; omega)); (focus (show (R.length + 1) * 48 ≤ _; omega)); (focus omega))  |  ((with_reducible apply Vl.mk (α := List SV)); · exact happ)  |  (apply Sg.mk; · first | exact seg | exact seg2)  |  (refine vcall_pure (f := 49) (car) rfl ?_) | (with_reducible apply sd_draw; · kernel_rfl) | (apply Sd.mk; · exact aSd) | ((with_reducible apply Vl.mk (α := Int)); · exact aAr) | ((with_reducible first | apply Vl.mk (α := Bool) | apply Vl.mk (α := Nat) | apply Vl.mk (α := ByteArray) | apply Ge.mk (α := Row) | apply Ge.mk (α := SV) | apply Ge.mk (α := AV)); · exact rfl) | (refine And.intro rfl ?_) | ((with_reducible first | apply Vl.mk (α := List SV) | apply Vl.mk (α := Ef) | apply Vl.mk (α := TV) | apply Ge.mk (α := List SV) | apply Sg.mk | apply Sk.mk); · exact aCl) | ((first | apply Br.mk | apply Gd.mk) <;> (intro hb; first | exact aKl hb | (simp only [d1, d2, beq_iff_eq, bne_iff_ne, d3, d4, d5, d6, Int.not_lt, Int.not_le, ge_iff_le, gt_iff_lt, ne_eq, d7] at hb; first | (exfalso; omega) | skip) | skip)))); (all_goals (try (conv => whnf)))
              all_goals first
                | (refine ⟨mm - 1, rf2 N A L LL (i + 1) PLL 0 (R.length + 1) RR2, by omega, ?_, i + 1, 0, R2, by omega, by omega, by omega, by omega, hR2, by rw [hRR2, hR2l]; rfl⟩
                   apply wk_of (m := [(0, some 0), (1, some 1), (2, some 2), (3, some 3), (4, some _)])
                   · repeat' (first | exact tml_nil | apply tml_cons)
                     all_goals first | exact tvm_a (avm_s (svm_same rfl)) | exact tvm_a (avm_s (svm_ptr rfl)) | exact tvm_a (avm_s (svm_sl rfl)) | exact tvm_a (avm_s (svm_slnil rfl))
                   · show HlS _ _ [] _
                     refine hls_row (rowmt_mk rfl rfl rfl rfl (svsm_scal hsc)) ?_
                     refine hls_row (rowmt_mk rfl rfl rfl rfl (svsm_scal rfl)) ?_
                     refine hls_row (rowmt_mk rfl rfl rfl rfl (.cons (svm_same rfl) (.cons (svm_same rfl) (.cons (svm_sl rfl) .nil)))) ?_
                     refine hls_row (rowmt_mk rfl rfl rfl rfl (svsm_scal hps)) ?_
                     refine hls_row (rowmt_mk rfl rfl rfl rfl (svsm_scal hRs2)) ?_
                     exact hls_nil
                   · rfl
                   )
                | trace_state
            · have hup : o = 24 ∧ (a = 0 ∨ o' = 24 ∧ a' = a) := by
                unfold useV at hu
                dsimp only at hu
                rw [hB] at hu
                by_cases h24 : o = 24
                · rw [if_pos h24, decide_eq_true_eq] at hu; exact ⟨h24, hu⟩
                · rw [if_neg h24] at hu; rw [Bool.and_false] at hu; cases hu
              rw [hB] at car
              have hR2 : R ++ mrg (pl.drop (i + 1)) (n + p) = mrg pl 0 := by rw [← hR, hd, hd2, mrg, if_pos hu]
              clear hRk happ hRs2 hu
              generalize hRR : mcs R = RR at *
              generalize mcs pl = PLL at *
              (repeat' ((conv => whnf); first | ((with_reducible apply Vl.mk (α := Int)); · with_reducible first | exact q1 | exact q2 | exact q3)  |  ((with_reducible apply Vl.mk (α := Nat)); · with_reducible first | exact x1 | exact x2)  |  (apply Sd.mk; · refine ⟨rfl, rfl, ?_, ?_, ?_⟩; (focus (show RR.length = R.length * 6; omega)); (focus (show (R.length + 1) * 48 ≤ _; omega)); (focus omega))  |  ((with_reducible apply Vl.mk (α := List SV)); · exact happ)  |  (apply Sg.mk; · first | exact seg | exact seg2)  |  (refine vcall_pure (f := 49) (car) rfl ?_) | (with_reducible apply sd_draw; · kernel_rfl) | (apply Sd.mk; · exact aSd) | ((with_reducible apply Vl.mk (α := Int)); · exact aAr) | ((with_reducible first | apply Vl.mk (α := Bool) | apply Vl.mk (α := Nat) | apply Vl.mk (α := ByteArray) | apply Ge.mk (α := Row) | apply Ge.mk (α := SV) | apply Ge.mk (α := AV)); · exact rfl) | (refine And.intro rfl ?_) | ((with_reducible first | apply Vl.mk (α := List SV) | apply Vl.mk (α := Ef) | apply Vl.mk (α := TV) | apply Ge.mk (α := List SV) | apply Sg.mk | apply Sk.mk); · exact aCl) | ((first | apply Br.mk | apply Gd.mk) <;> (intro hb; first | exact aKl hb | (simp only [d1, d2, beq_iff_eq, bne_iff_ne, d3, d4, d5, d6, Int.not_lt, Int.not_le, ge_iff_le, gt_iff_lt, ne_eq, d7] at hb; first | (exfalso; omega) | skip) | skip)))); (all_goals (try (conv => whnf)))
              all_goals first
                | (refine ⟨mm - 1, rf2 N A L LL (i + 1) PLL (n + p) R.length RR, by omega, ?_, i + 1, n + p, R, by omega, by omega, by omega, by omega, hR2, by rw [hRR]; rfl⟩
                   apply wk_of (m := [(0, some 0), (1, some 1), (2, some 2), (3, some 3), (4, some 4)])
                   · repeat' (first | exact tml_nil | apply tml_cons)
                     all_goals first | exact tvm_a (avm_s (svm_same rfl)) | exact tvm_a (avm_s (svm_ptr rfl)) | exact tvm_a (avm_s (svm_sl rfl)) | exact tvm_a (avm_s (svm_slnil rfl))
                   · show HlS _ _ [] _
                     refine hls_row (rowmt_mk rfl rfl rfl rfl (svsm_scal hsc)) ?_
                     refine hls_row (rowmt_mk rfl rfl rfl rfl (svsm_scal rfl)) ?_
                     refine hls_row (rowmt_mk rfl rfl rfl rfl (.cons (svm_same rfl) (.cons (svm_same rfl) (.cons (svm_sl rfl) .nil)))) ?_
                     refine hls_row (rowmt_mk rfl rfl rfl rfl (svsm_scal hps)) ?_
                     refine hls_row (rowmt_mk rfl rfl rfl rfl (svsm_scal hRs)) ?_
                     exact hls_nil
                   · rfl
                   )
                | trace_state
            · have hup : ¬ ((o = 24 ∧ (a = 0 ∨ o' = 24 ∧ a' = a)) ∨ (o ≠ 24 ∧ a = 0)) := by
                unfold useV at hu
                dsimp only at hu
                rw [hB] at hu
                by_cases h24 : o = 24
                · rw [if_pos h24, decide_eq_false_iff_not] at hu; omega
                · rw [if_neg h24] at hu; rw [Bool.and_true, decide_eq_false_iff_not] at hu; omega
              rw [hB] at car
              have hR2 : (R ++ [⟨o, a, b, c, k, n + p⟩]) ++ mrg (pl.drop (i + 1)) 0 = mrg pl 0 := by
                rw [← hR, hd, hd2, mrg, if_neg (by rw [hu]; simp), List.append_assoc]; rfl
              generalize hR2d : R ++ [⟨o, a, b, c, k, n + p⟩] = R2 at *
              have hR2l : R2.length = R.length + 1 := by rw [← hR2d]; simp
              clear hu
              generalize hRR : mcs R = RR at *
              generalize hRR2 : mcs R2 = RR2 at *
              generalize mcs pl = PLL at *
              (repeat' ((conv => whnf); first | ((with_reducible apply Vl.mk (α := Int)); · with_reducible first | exact q1 | exact q2 | exact q3)  |  ((with_reducible apply Vl.mk (α := Nat)); · with_reducible first | exact x1 | exact x2)  |  (apply Sd.mk; · refine ⟨rfl, rfl, ?_, ?_, ?_⟩; (focus (show RR.length = R.length * 6; omega)); (focus (show (R.length + 1) * 48 ≤ _; omega)); (focus omega))  |  ((with_reducible apply Vl.mk (α := List SV)); · exact happ)  |  (apply Sg.mk; · first | exact seg | exact seg2)  |  (refine vcall_pure (f := 49) (car) rfl ?_) | (with_reducible apply sd_draw; · kernel_rfl) | (apply Sd.mk; · exact aSd) | ((with_reducible apply Vl.mk (α := Int)); · exact aAr) | ((with_reducible first | apply Vl.mk (α := Bool) | apply Vl.mk (α := Nat) | apply Vl.mk (α := ByteArray) | apply Ge.mk (α := Row) | apply Ge.mk (α := SV) | apply Ge.mk (α := AV)); · exact rfl) | (refine And.intro rfl ?_) | ((with_reducible first | apply Vl.mk (α := List SV) | apply Vl.mk (α := Ef) | apply Vl.mk (α := TV) | apply Ge.mk (α := List SV) | apply Sg.mk | apply Sk.mk); · exact aCl) | ((first | apply Br.mk | apply Gd.mk) <;> (intro hb; first | exact aKl hb | (simp only [d1, d2, beq_iff_eq, bne_iff_ne, d3, d4, d5, d6, Int.not_lt, Int.not_le, ge_iff_le, gt_iff_lt, ne_eq, d7] at hb; first | (exfalso; omega) | skip) | skip)))); (all_goals (try (conv => whnf)))
              all_goals first
                | (refine ⟨mm - 1, rf2 N A L LL (i + 1) PLL 0 (R.length + 1) RR2, by omega, ?_, i + 1, 0, R2, by omega, by omega, by omega, by omega, hR2, by rw [hRR2, hR2l]; rfl⟩
                   apply wk_of (m := [(0, some 0), (1, some 1), (2, some 2), (3, some 3), (4, some _)])
                   · repeat' (first | exact tml_nil | apply tml_cons)
                     all_goals first | exact tvm_a (avm_s (svm_same rfl)) | exact tvm_a (avm_s (svm_ptr rfl)) | exact tvm_a (avm_s (svm_sl rfl)) | exact tvm_a (avm_s (svm_slnil rfl))
                   · show HlS _ _ [] _
                     refine hls_row (rowmt_mk rfl rfl rfl rfl (svsm_scal hsc)) ?_
                     refine hls_row (rowmt_mk rfl rfl rfl rfl (svsm_scal rfl)) ?_
                     refine hls_row (rowmt_mk rfl rfl rfl rfl (.cons (svm_same rfl) (.cons (svm_same rfl) (.cons (svm_sl rfl) .nil)))) ?_
                     refine hls_row (rowmt_mk rfl rfl rfl rfl (svsm_scal hps)) ?_
                     refine hls_row (rowmt_mk rfl rfl rfl rfl (svsm_scal hRs2)) ?_
                     exact hls_nil
                   · rfl
                   )
                | trace_state
            · have hup : (o = 24 ∧ (a = 0 ∨ o' = 24 ∧ a' = a)) ∨ (o ≠ 24 ∧ a = 0) := by
                unfold useV at hu
                dsimp only at hu
                rw [hB] at hu
                by_cases h24 : o = 24
                · rw [if_pos h24, decide_eq_true_eq] at hu; exact .inl ⟨h24, hu⟩
                · rw [if_neg h24] at hu; rw [Bool.and_true, decide_eq_true_eq] at hu; exact .inr ⟨h24, hu⟩
              rw [hB] at car
              have hR2 : R ++ mrg (pl.drop (i + 1)) (n + p) = mrg pl 0 := by rw [← hR, hd, hd2, mrg, if_pos hu]
              clear hRk happ hRs2 hu
              generalize hRR : mcs R = RR at *
              generalize mcs pl = PLL at *
              (repeat' ((conv => whnf); first | ((with_reducible apply Vl.mk (α := Int)); · with_reducible first | exact q1 | exact q2 | exact q3)  |  ((with_reducible apply Vl.mk (α := Nat)); · with_reducible first | exact x1 | exact x2)  |  (apply Sd.mk; · refine ⟨rfl, rfl, ?_, ?_, ?_⟩; (focus (show RR.length = R.length * 6; omega)); (focus (show (R.length + 1) * 48 ≤ _; omega)); (focus omega))  |  ((with_reducible apply Vl.mk (α := List SV)); · exact happ)  |  (apply Sg.mk; · first | exact seg | exact seg2)  |  (refine vcall_pure (f := 49) (car) rfl ?_) | (with_reducible apply sd_draw; · kernel_rfl) | (apply Sd.mk; · exact aSd) | ((with_reducible apply Vl.mk (α := Int)); · exact aAr) | ((with_reducible first | apply Vl.mk (α := Bool) | apply Vl.mk (α := Nat) | apply Vl.mk (α := ByteArray) | apply Ge.mk (α := Row) | apply Ge.mk (α := SV) | apply Ge.mk (α := AV)); · exact rfl) | (refine And.intro rfl ?_) | ((with_reducible first | apply Vl.mk (α := List SV) | apply Vl.mk (α := Ef) | apply Vl.mk (α := TV) | apply Ge.mk (α := List SV) | apply Sg.mk | apply Sk.mk); · exact aCl) | ((first | apply Br.mk | apply Gd.mk) <;> (intro hb; first | exact aKl hb | (simp only [d1, d2, beq_iff_eq, bne_iff_ne, d3, d4, d5, d6, Int.not_lt, Int.not_le, ge_iff_le, gt_iff_lt, ne_eq, d7] at hb; first | (exfalso; omega) | skip) | skip)))); (all_goals (try (conv => whnf)))
              all_goals first
                | (refine ⟨mm - 1, rf2 N A L LL (i + 1) PLL (n + p) R.length RR, by omega, ?_, i + 1, n + p, R, by omega, by omega, by omega, by omega, hR2, by rw [hRR]; rfl⟩
                   apply wk_of (m := [(0, some 0), (1, some 1), (2, some 2), (3, some 3), (4, some 4)])
                   · repeat' (first | exact tml_nil | apply tml_cons)
                     all_goals first | exact tvm_a (avm_s (svm_same rfl)) | exact tvm_a (avm_s (svm_ptr rfl)) | exact tvm_a (avm_s (svm_sl rfl)) | exact tvm_a (avm_s (svm_slnil rfl))
                   · show HlS _ _ [] _
                     refine hls_row (rowmt_mk rfl rfl rfl rfl (svsm_scal hsc)) ?_
                     refine hls_row (rowmt_mk rfl rfl rfl rfl (svsm_scal rfl)) ?_
                     refine hls_row (rowmt_mk rfl rfl rfl rfl (.cons (svm_same rfl) (.cons (svm_same rfl) (.cons (svm_sl rfl) .nil)))) ?_
                     refine hls_row (rowmt_mk rfl rfl rfl rfl (svsm_scal hps)) ?_
                     refine hls_row (rowmt_mk rfl rfl rfl rfl (svsm_scal hRs)) ?_
                     exact hls_nil
                   · rfl
                   )
                | trace_state
          · have hd3 : pl.drop (i + 1) = [] := List.drop_eq_nil_of_le (by omega)
            have hR2 : (R ++ [⟨o, a, b, c, k, n + p⟩]) ++ mrg (pl.drop (i + 1)) 0 = mrg pl 0 := by
              rw [← hR, hd, hd3]
              show (R ++ _) ++ [] = R ++ _
              rw [List.append_nil]
              rfl
            generalize hR2d : R ++ [⟨o, a, b, c, k, n + p⟩] = R2 at *
            have hR2l : R2.length = R.length + 1 := by rw [← hR2d]; simp
            generalize hRR : mcs R = RR at *
            generalize hRR2 : mcs R2 = RR2 at *
            generalize mcs pl = PLL at *
            (repeat' ((conv => whnf); first | ((with_reducible apply Vl.mk (α := Int)); · with_reducible first | exact q1 | exact q2)  |  ((with_reducible apply Vl.mk (α := Nat)); · with_reducible exact x1)  |  (apply Sd.mk; · refine ⟨rfl, rfl, ?_, ?_, ?_⟩; (focus (show RR.length = R.length * 6; omega)); (focus (show (R.length + 1) * 48 ≤ _; omega)); (focus omega))  |  ((with_reducible apply Vl.mk (α := List SV)); · exact happ)  |  (apply Sg.mk; · exact seg)  |  (refine vcall_pure (f := 49) (car) rfl ?_) | (with_reducible apply sd_draw; · kernel_rfl) | (apply Sd.mk; · exact aSd) | ((with_reducible apply Vl.mk (α := Int)); · exact aAr) | ((with_reducible first | apply Vl.mk (α := Bool) | apply Vl.mk (α := Nat) | apply Vl.mk (α := ByteArray) | apply Ge.mk (α := Row) | apply Ge.mk (α := SV) | apply Ge.mk (α := AV)); · exact rfl) | (refine And.intro rfl ?_) | ((with_reducible first | apply Vl.mk (α := List SV) | apply Vl.mk (α := Ef) | apply Vl.mk (α := TV) | apply Ge.mk (α := List SV) | apply Sg.mk | apply Sk.mk); · exact aCl) | ((first | apply Br.mk | apply Gd.mk) <;> (intro hb; first | exact aKl hb | (simp only [d1, d2, beq_iff_eq, bne_iff_ne, d3, d4, d5, d6, Int.not_lt, Int.not_le, ge_iff_le, gt_iff_lt, ne_eq, d7] at hb; first | (exfalso; omega) | skip) | skip)))); (all_goals (try (conv => whnf)))
            all_goals first
              | (refine ⟨mm - 1, rf2 N A L LL (i + 1) PLL 0 (R.length + 1) RR2, by omega, ?_, i + 1, 0, R2, by omega, by omega, by omega, by omega, hR2, by rw [hRR2, hR2l]; rfl⟩
                 apply wk_of (m := [(0, some 0), (1, some 1), (2, some 2), (3, some 3), (4, some _)])
                 · repeat' (first | exact tml_nil | apply tml_cons)
                   all_goals first | exact tvm_a (avm_s (svm_same rfl)) | exact tvm_a (avm_s (svm_ptr rfl)) | exact tvm_a (avm_s (svm_sl rfl)) | exact tvm_a (avm_s (svm_slnil rfl))
                 · show HlS _ _ [] _
                   refine hls_row (rowmt_mk rfl rfl rfl rfl (svsm_scal hsc)) ?_
                   refine hls_row (rowmt_mk rfl rfl rfl rfl (svsm_scal rfl)) ?_
                   refine hls_row (rowmt_mk rfl rfl rfl rfl (.cons (svm_same rfl) (.cons (svm_same rfl) (.cons (svm_sl rfl) .nil)))) ?_
                   refine hls_row (rowmt_mk rfl rfl rfl rfl (svsm_scal hps)) ?_
                   refine hls_row (rowmt_mk rfl rfl rfl rfl (svsm_scal hRs2)) ?_
                   exact hls_nil
                 · rfl
                 )
              | trace_state
        · have hiN : i = N := by omega
          subst hiN
          have hRe : R = mrg pl 0 := by rw [← hR, List.drop_eq_nil_of_le (by omega)]; show R = R ++ []; rw [List.append_nil]
          have hRs := mcs_scal R
          rw [← hRe]
          generalize mcs R = RR at *
          generalize mcs pl = PLL at *
          (repeat' ((conv => whnf); first | (with_reducible apply sd_draw; · kernel_rfl) | (apply Sd.mk; · exact aSd) | ((with_reducible apply Vl.mk (α := Int)); · exact aAr) | ((with_reducible first | apply Vl.mk (α := Bool) | apply Vl.mk (α := Nat) | apply Vl.mk (α := ByteArray) | apply Ge.mk (α := Row) | apply Ge.mk (α := SV) | apply Ge.mk (α := AV)); · exact rfl) | (refine And.intro rfl ?_) | ((with_reducible first | apply Vl.mk (α := List SV) | apply Vl.mk (α := Ef) | apply Vl.mk (α := TV) | apply Ge.mk (α := List SV) | apply Sg.mk | apply Sk.mk); · exact aCl) | ((first | apply Br.mk | apply Gd.mk) <;> (intro hb; first | exact aKl hb | (simp only [d1, d2, beq_iff_eq, bne_iff_ne, d3, d4, d5, d6, Int.not_lt, Int.not_le, ge_iff_le, gt_iff_lt, ne_eq, d7] at hb; first | (exfalso; omega) | skip) | skip)))); (all_goals (try (conv => whnf)))
          all_goals first | (apply Fin.mk (m := [(0, some 0), (1, some _)]); (focus exact rfl); (all_goals ((try (show HlS _ _ [] _)); first | (exact aFi) | exact rfl))) | trace_state
end Go.Proofs.Ytcaddlighhiepaa

/- Fold of a block that may not stand, both sides; SameBlock. -/
namespace Go.Proofs.Ytcaddlighhiepaa
open Go Go.RowKit
set_option linter.unusedSimpArgs false
set_option linter.unusedVariables false

set_option maxRecDepth 100000 in
theorem cloneZ_fn (l : List Mz) (N : Nat) (hN : l.length = N) (hN2 : N ≤ 1000000) : Fn Try.prog 55 [.s (.sl 0 0 N)] [⟨false, 6, mzs l⟩] (· = ⟨.a (.s (.sl 1 0 N)), [], [⟨true, 6, mzs l⟩]⟩) := by
  have hl := mzs_len l
  have hk := mzs_known l
  have hs := mzs_scal l
  generalize mzs l = M at *
  refine fn_of_vc mixed tys_ok _ _ Try.func55 (by kernel_rfl) rfl Try.ntmps55 (by rw [Try.results55]) rfl ?_; dsimp only [argTm, argHl, Nat.zero_add, Nat.reduceAdd, List.length_nil, List.length_cons]
  (repeat' ((conv => whnf); first | (refine Ns.any rfl ?_; intro bn hbn)  |  (apply Sk.mk; · exact sk_all M (by show M.length = N * 6; omega) hk)  |  (apply Sd.mk; · refine ⟨rfl, rfl, rfl, ?_, ?_⟩ <;> first | omega | (show (0 + N) * 48 ≤ _; omega))  |  ((with_reducible apply Vl.mk (α := Nat)); · exact Nat.zero_add N)  |  ((with_reducible apply Vl.mk (α := List SV)); · exact List.nil_append M) | (with_reducible apply sd_draw; · kernel_rfl) | (apply Sd.mk; · exact aSd) | ((with_reducible apply Vl.mk (α := Int)); · exact aAr) | ((with_reducible first | apply Vl.mk (α := Bool) | apply Vl.mk (α := Nat) | apply Vl.mk (α := ByteArray) | apply Ge.mk (α := Row) | apply Ge.mk (α := SV) | apply Ge.mk (α := AV)); · exact rfl) | (refine And.intro rfl ?_) | ((with_reducible first | apply Vl.mk (α := List SV) | apply Vl.mk (α := Ef) | apply Vl.mk (α := TV) | apply Ge.mk (α := List SV) | apply Sg.mk | apply Sk.mk); · exact aCl) | ((first | apply Br.mk | apply Gd.mk) <;> (intro hb; first | exact aKl hb | (simp only [d1, d2, beq_iff_eq, bne_iff_ne, d3, d4, d5, d6, Int.not_lt, Int.not_le, ge_iff_le, gt_iff_lt, ne_eq, d7] at hb; first | (exfalso; omega) | skip) | skip)))); (all_goals (try (conv => whnf)))
  · have hz := hbn hb
    subst hz
    have hM : M = [] := List.length_eq_zero_iff.1 (by rw [hl, hN])
    subst hM
    (apply Fin.mk (m := [(0, some 0), (1, none)]); (focus exact rfl); (all_goals ((try (show HlS _ _ [] _)); first | (exact aFi) | exact rfl)))
  · (apply Fin.mk (m := [(0, some 0), (1, some _)]); (focus exact rfl); (all_goals ((try (show HlS _ _ [] _)); first | (exact aFi) | exact rfl)))
set_option maxRecDepth 100000 in
theorem foldN_fn (A : Nat) (hA : A < 4294967296) (L : Int) (l : List Mz) (N : Nat) (hN : l.length = N) (hN2 : N ≤ 1000000) (hm : mayV A L l = false) :
    Fn Try.prog 43 [.agg [.int .u32 A, .int .i64 L, .sl 0 0 N]] [⟨false, 6, mzs l⟩] (· = ⟨.a (.agg [.int .u32 A, .int .i64 L, .sl 1 0 N]), [], [⟨true, 6, mzs l⟩]⟩) := by
  have hcl := cloneZ_fn l N hN hN2
  have hmay := may_fn A hA L l N hN hN2
  rw [hm] at hmay
  have hsc := mzs_scal l
  generalize hLL : mzs l = LL at *
  refine fn_of_vc mixed tys_ok _ _ Try.func43 (by kernel_rfl) rfl Try.ntmps43 (by rw [Try.results43]) rfl ?_; dsimp only [argTm, argHl, Nat.zero_add, Nat.reduceAdd, List.length_nil, List.length_cons]
  (repeat' ((conv => whnf); first | (refine vcall_det (f := 55) hcl [⟨0, 0⟩] [(0, ⟨false, 6, LL⟩)] rfl ⟨rfl, trivial⟩ ⟨rfl, rowM_ro hsc, trivial⟩ ⟨rfl, noUp⟩ ?_)  |  (refine vcall_det (f := 36) hmay [⟨_, 0⟩] [(_, ⟨true, 6, LL⟩)] rfl ⟨rfl, trivial⟩ ⟨rfl, rowM_ro hsc, trivial⟩ ⟨rfl, noUp⟩ ?_) | (with_reducible apply sd_draw; · kernel_rfl) | (apply Sd.mk; · exact aSd) | ((with_reducible apply Vl.mk (α := Int)); · exact aAr) | ((with_reducible first | apply Vl.mk (α := Bool) | apply Vl.mk (α := Nat) | apply Vl.mk (α := ByteArray) | apply Ge.mk (α := Row) | apply Ge.mk (α := SV) | apply Ge.mk (α := AV)); · exact rfl) | (refine And.intro rfl ?_) | ((with_reducible first | apply Vl.mk (α := List SV) | apply Vl.mk (α := Ef) | apply Vl.mk (α := TV) | apply Ge.mk (α := List SV) | apply Sg.mk | apply Sk.mk); · exact aCl) | ((first | apply Br.mk | apply Gd.mk) <;> (intro hb; first | exact aKl hb | (simp only [d1, d2, beq_iff_eq, bne_iff_ne, d3, d4, d5, d6, Int.not_lt, Int.not_le, ge_iff_le, gt_iff_lt, ne_eq, d7] at hb; first | (exfalso; omega) | skip) | skip)))); (all_goals (try (conv => whnf)))
  all_goals first | (apply Fin.mk (m := [(0, some 0), (1, some _)]); (focus exact rfl); (all_goals ((try (show HlS _ _ [] _)); first | (exact aFi) | exact rfl))) | trace_state
set_option maxRecDepth 100000 in
theorem rfoldN_fn (A : Nat) (hA : A < 4294967296) (L : Int) (l : List Mz) (N : Nat) (hN : l.length = N) (hN2 : N ≤ 1000000) (hm : mayV A L l = false) :
    Fn Try.prog 23 [.agg [.int .u32 A, .int .i64 L, .sl 0 0 N]] [⟨false, 6, mzs l⟩] (· = ⟨.a (.agg [.int .u32 A, .int .i64 L, .sl 1 0 N]), [], [⟨true, 6, mzs l⟩]⟩) := by
  have hmay := bmay_fn A hA L l N hN hN2
  rw [hm] at hmay
  have hsc := mzs_scal l
  have hLl := mzs_len l
  have hLk := mzs_known l
  generalize hLL : mzs l = LL at *
  refine fn_of_vc mixed tys_ok _ _ Try.func23 (by kernel_rfl) rfl Try.ntmps23 (by rw [Try.results23]) rfl ?_; dsimp only [argTm, argHl, Nat.zero_add, Nat.reduceAdd, List.length_nil, List.length_cons]
  (repeat' ((conv => whnf); first | (apply Sk.mk; · exact sk_all LL (by show LL.length = N * 6; omega) hLk)  |  (apply Sd.mk; · refine ⟨rfl, rfl, rfl, ?_, ?_⟩ <;> first | omega | (show (0 + N) * 48 ≤ _; omega))  |  ((with_reducible apply Vl.mk (α := Nat)); · exact Nat.zero_add N)  |  ((with_reducible apply Vl.mk (α := List SV)); · exact List.nil_append LL)  |  (refine vcall_det (f := 38) hmay [⟨_, 0⟩] [(_, ⟨false, 6, LL⟩)] rfl ⟨rfl, trivial⟩ ⟨rfl, rowM_ro hsc, trivial⟩ ⟨rfl, noUp⟩ ?_) | (with_reducible apply sd_draw; · kernel_rfl) | (apply Sd.mk; · exact aSd) | ((with_reducible apply Vl.mk (α := Int)); · exact aAr) | ((with_reducible first | apply Vl.mk (α := Bool) | apply Vl.mk (α := Nat) | apply Vl.mk (α := ByteArray) | apply Ge.mk (α := Row) | apply Ge.mk (α := SV) | apply Ge.mk (α := AV)); · exact rfl) | (refine And.intro rfl ?_) | ((with_reducible first | apply Vl.mk (α := List SV) | apply Vl.mk (α := Ef) | apply Vl.mk (α := TV) | apply Ge.mk (α := List SV) | apply Sg.mk | apply Sk.mk); · exact aCl) | ((first | apply Br.mk | apply Gd.mk) <;> (intro hb; first | exact aKl hb | (simp only [d1, d2, beq_iff_eq, bne_iff_ne, d3, d4, d5, d6, Int.not_lt, Int.not_le, ge_iff_le, gt_iff_lt, ne_eq, d7] at hb; first | (exfalso; omega) | skip) | skip)))); (all_goals (try (conv => whnf)))
  all_goals first | (apply Fin.mk (m := [(0, some 0), (1, some _)]); (focus exact rfl); (all_goals ((try (show HlS _ _ [] _)); first | (exact aFi) | exact rfl))) | trace_state
end Go.Proofs.Ytcaddlighhiepaa

/- Fold of any block. -/
namespace Go.Proofs.Ytcaddlighhiepaa
open Go Go.RowKit
set_option linter.unusedSimpArgs false
set_option linter.unusedVariables false

/-- Both sides fold any block to the same. -/
theorem foldAny (A : Nat) (hA : A < 4294967296) (L : Int) (l : List Mz) (N : Nat) (hN : l.length = N) (hN2 : N ≤ 1000000) (hk : ∀ m ∈ l, m.k < 4294967296) :
    ∃ (M : List Mz) (K : Nat), M.length = K ∧ K ≤ 1000000 ∧ (∀ m ∈ M, m.k < 4294967296) ∧
      Fn Try.prog 43 [.agg [.int .u32 A, .int .i64 L, .sl 0 0 N]] [⟨false, 6, mzs l⟩] (· = ⟨.a (.agg [.int .u32 A, .int .i64 L, .sl 1 0 K]), [], [⟨true, 6, mzs M⟩]⟩) ∧
      Fn Try.prog 23 [.agg [.int .u32 A, .int .i64 L, .sl 0 0 N]] [⟨false, 6, mzs l⟩] (· = ⟨.a (.agg [.int .u32 A, .int .i64 L, .sl 1 0 K]), [], [⟨true, 6, mzs M⟩]⟩) := by
  cases hm : mayV A L l with
  | false => exact ⟨l, N, hN, hN2, hk, foldN_fn A hA L l N hN hN2 hm, rfoldN_fn A hA L l N hN hN2 hm⟩
  | true =>
    obtain ⟨l', rfl, hok⟩ := toMi l 0 L hk ((mayV_iff _ _ _).1 hm).2
    have h0 : 0 < N := by
      cases N with
      | zero => rw [List.length_eq_zero_iff.1 hN, may0] at hm; cases hm
      | succ n => omega
    rw [mzs_mcs]
    rw [List.length_map] at hN
    refine ⟨(fldL l').map Mi.z, (fldL l').length, by rw [List.length_map], by have := fldL_le l'; omega, fun m hm => ?_, ?_, ?_⟩
    · obtain ⟨q, hq, rfl⟩ := List.mem_map.1 hm
      exact (fldL_ok l' hok q hq).2.2.2
    · rw [mzs_mcs]; exact foldI_fn A hA L l' N _ hN hN2 h0 hok hm rfl
    · rw [mzs_mcs]; exact rfoldI_fn A hA L l' N _ hN hN2 h0 hok hm rfl
end Go.Proofs.Ytcaddlighhiepaa
