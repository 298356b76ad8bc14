/- Caches: equality of blocks, SameBlock, SameBlocks. -/
import Derived.Test.YtcaddlighhiepaaCcL
namespace Go.Proofs.Ytcaddlighhiepaa
open Go Go.RowKit
set_option linter.unusedSimpArgs false
set_option linter.unusedVariables false

instance mzDec : DecidableEq Mz := fun a b =>
  if h : a.o = b.o ∧ a.a = b.a ∧ a.b = b.b ∧ a.c = b.c ∧ a.k = b.k ∧ a.n = b.n then
    isTrue (by cases a; cases b; obtain ⟨h1, h2, h3, h4, h5, h6⟩ := h; dsimp only at *; subst h1 h2 h3 h4 h5 h6; rfl)
  else isFalse (fun e => h (by subst e; exact ⟨rfl, rfl, rfl, rfl, rfl, rfl⟩))
theorem eq6D (m m' : Mz) : eqCells ks6 m.C m'.C = some (decide (m = m')) := by
  have e : ∀ (k : IntKind) (x y : Int), k = .i64 ∨ k = .u32 → eqS .int (SV.int k x) (SV.int k y) = some (x == y) := fun k x y h => by
    rcases h with rfl | rfl <;> rfl
  unfold Mz.C ks6
  simp only [eqCells, e _ _ _ (.inl rfl), e _ _ _ (.inr rfl)]
  congr 1
  cases hd : decide (m = m') with
  | true =>
    obtain rfl := of_decide_eq_true hd
    simp
  | false =>
    have hne := of_decide_eq_false hd
    obtain ⟨o, a, b, c, k, n⟩ := m
    obtain ⟨o', a', b', c', k', n'⟩ := m'
    dsimp only
    rw [Bool.eq_false_iff]
    intro h
    simp only [Bool.and_eq_true, beq_iff_eq, and_true] at h
    obtain ⟨h1, h2, h3, h4, h5, h6⟩ := h
    exact hne (by subst h1 h2 h3 h4 h6; have := Int.ofNat_inj.1 h5; subst this; rfl)
theorem take_eq_step {α : Type} {l l' : List α} {i : Nat} {m m' : α} (h : l.take i = l'.take i) (h1 : l[i]? = some m) (h2 : l'[i]? = some m') (e : m = m') : l.take (i + 1) = l'.take (i + 1) := by
  rw [List.take_add_one, List.take_add_one, h, h1, h2, e]
theorem ne_of_at {α : Type} {l l' : List α} {i : Nat} {m m' : α} (h1 : l[i]? = some m) (h2 : l'[i]? = some m') (e : ¬ m = m') : ¬ l = l' := fun h => by
  subst h; rw [h1] at h2; exact e (Option.some.inj h2)
def eqst (N i : Nat) (LL L2 : List SV) : St :=
  ⟨[(0, .a (.s (.sl 0 0 N))), (1, .a (.s (.sl 1 0 N))), (12, .a (.s (.int .i64 N))), (13, .a (.s (.int .i64 i)))], [(0, some ⟨false, 6, LL⟩), (1, some ⟨false, 6, L2⟩)], [0]⟩
set_option maxHeartbeats 1000000 in
set_option maxRecDepth 100000 in
theorem equalZ_fn (l l' : List Mz) (N N' : Nat) (hN : l.length = N) (hN' : l'.length = N') (hN2 : N ≤ 1000000) (B : Bool) (hB : decide (l = l') = B) :
    Fn Try.prog 69 [.s (.sl 0 0 N), .s (.sl 1 0 N')] [⟨false, 6, mzs l⟩, ⟨false, 6, mzs l'⟩] (· = ⟨.a (.s (.bool B)), [], []⟩) := by
  have hsc := mzs_scal l
  have hseg := mzs_seg l
  have hsc' := mzs_scal l'
  have hseg' := mzs_seg l'
  generalize hLL : mzs l = LL at *
  generalize hL2 : mzs l' = L2 at *
  by_cases hne : N = N'
  case neg =>
    obtain rfl : B = false := by rw [← hB]; exact decide_eq_false (fun h => hne (by rw [← hN, ← hN', h]))
    refine fn_of_vc mixed tys_ok _ _ Try.func69 (by kernel_rfl) rfl Try.ntmps69 (by rw [Try.results69]) rfl ?_; dsimp only [argTm, argHl, Nat.zero_add, Nat.reduceAdd, List.length_nil, List.length_cons]
    (repeat' ((conv => whnf); first | ((first | apply Br.mk | apply Gd.mk) <;> (intro hb; first | exact aK2 hb | (simp only [d1, d2, beq_iff_eq, bne_iff_ne, d3, d4, d5, d6, Int.not_lt, Int.not_le, ge_iff_le, gt_iff_lt, ne_eq, d7] at hb; first | (exfalso; omega) | skip) | skip))  |  (refine Eqs.mk _ (eqt_ok _ _ rfl _ _ _ rfl) ?_) | ((with_reducible apply Vl.mk (α := Nat)); · exact aNt) | (with_reducible apply sd_draw; · kernel_rfl) | (apply Sd.mk; · exact aSd) | ((with_reducible apply Vl.mk (α := Int)); · exact aAr) | ((with_reducible first | apply Vl.mk (α := Bool) | apply Vl.mk (α := Nat) | apply Vl.mk (α := ByteArray) | apply Ge.mk (α := Row) | apply Ge.mk (α := SV) | apply Ge.mk (α := AV)); · exact rfl) | (refine And.intro rfl ?_) | ((with_reducible first | apply Vl.mk (α := List SV) | apply Vl.mk (α := Ef) | apply Vl.mk (α := TV) | apply Ge.mk (α := List SV) | apply Sg.mk | apply Sk.mk); · exact aCl) | ((first | apply Br.mk | apply Gd.mk) <;> (intro hb; first | exact aKl hb | (simp only [d1, d2, beq_iff_eq, bne_iff_ne, d3, d4, d5, d6, Int.not_lt, Int.not_le, ge_iff_le, gt_iff_lt, ne_eq, d7] at hb; first | (exfalso; omega) | skip) | skip)) | (apply Sd.mk; · exact aS2))); (all_goals (try (conv => whnf)))
    all_goals first | (exfalso; omega) | (apply Fin.mk (m := [(0, some 0), (1, some 1)]); (focus exact rfl); (all_goals ((try (show HlS _ _ [] _)); first | (exact aFi) | exact rfl))) | trace_state
  subst hne
  refine fn_of_vc mixed tys_ok _ _ Try.func69 (by kernel_rfl) rfl Try.ntmps69 (by rw [Try.results69]) rfl ?_; dsimp only [argTm, argHl, Nat.zero_add, Nat.reduceAdd, List.length_nil, List.length_cons]
  (repeat' ((conv => whnf); first | ((first | apply Br.mk | apply Gd.mk) <;> (intro hb; first | exact aK2 hb | (simp only [d1, d2, beq_iff_eq, bne_iff_ne, d3, d4, d5, d6, Int.not_lt, Int.not_le, ge_iff_le, gt_iff_lt, ne_eq, d7] at hb; first | (exfalso; omega) | skip) | skip))  |  (refine Eqs.mk _ (eqt_ok _ _ rfl _ _ _ rfl) ?_) | ((with_reducible apply Vl.mk (α := Nat)); · exact aNt) | (with_reducible apply sd_draw; · kernel_rfl) | (apply Sd.mk; · exact aSd) | ((with_reducible apply Vl.mk (α := Int)); · exact aAr) | ((with_reducible first | apply Vl.mk (α := Bool) | apply Vl.mk (α := Nat) | apply Vl.mk (α := ByteArray) | apply Ge.mk (α := Row) | apply Ge.mk (α := SV) | apply Ge.mk (α := AV)); · exact rfl) | (refine And.intro rfl ?_) | ((with_reducible first | apply Vl.mk (α := List SV) | apply Vl.mk (α := Ef) | apply Vl.mk (α := TV) | apply Ge.mk (α := List SV) | apply Sg.mk | apply Sk.mk); · exact aCl) | ((first | apply Br.mk | apply Gd.mk) <;> (intro hb; first | exact aKl hb | (simp only [d1, d2, beq_iff_eq, bne_iff_ne, d3, d4, d5, d6, Int.not_lt, Int.not_le, ge_iff_le, gt_iff_lt, ne_eq, d7] at hb; first | (exfalso; omega) | skip) | skip)) | (apply Sd.mk; · exact aS2))); (all_goals (try (conv => whnf)))
  refine Lp.inv (fun mm σ => ∃ i, mm + i = N ∧ l.take i = l'.take i ∧ σ = eqst N i LL L2) ?_ ?_
  · refine ⟨N, eqst N 0 LL L2, ?_, 0, by omega, rfl, rfl⟩
    (apply wk_of (m := [(0, some 0), (1, some 1)]); (focus ((repeat' (first | exact tml_nil | apply tml_cons)); all_goals (exact aFi))); (focus ((show HlS _ _ [] _); (exact aFi))); (focus (first | exact rfl | rfl | kernel_rfl)))
  rintro mm σ ⟨i, hmi, hpre, rfl⟩
  unfold eqst
  by_cases hiN : i < N
  · obtain ⟨m, hm⟩ : ∃ m, l[i]? = some m := ⟨l[i]'(by omega), List.getElem?_eq_getElem (by omega)⟩
    obtain ⟨m', hm'⟩ : ∃ m, l'[i]? = some m := ⟨l'[i]'(by omega), List.getElem?_eq_getElem (by omega)⟩
    have seg := hseg i _ hm
    have seg' := hseg' i _ hm'
    have he := eq6D m m'
    have q2 : IntKind.i64.wrap ((i : Int) + 1) = ((i + 1 : Nat) : Int) := by rw [wi64 (by omega) (by omega)]; omega
    by_cases hmm : m = m'
    · have hstep := take_eq_step hpre hm hm' hmm
      rw [decide_eq_true hmm] at he
      obtain ⟨o, a, b, c, k, n⟩ := m
      obtain ⟨o', a', b', c', k', n'⟩ := m'
      dsimp only [Mz.C] at seg seg' he
      clear hmm hm hm' hpre hB
      (repeat' ((conv => whnf); first | (refine Eqs.mk true (eqt_ok _ ks6 rfl _ _ _ (by with_reducible exact he)) ?_)  |  ((first | apply Br.mk | apply Gd.mk) <;> (intro hb; first | exact aK2 hb | (simp only [d1, d2, beq_iff_eq, bne_iff_ne, d3, d4, d5, d6, Int.not_lt, Int.not_le, ge_iff_le, gt_iff_lt, ne_eq, d7] at hb; first | (exfalso; omega) | skip) | skip))  |  (refine Eqs.mk _ (eqt_ok _ _ rfl _ _ _ rfl) ?_)  |  ((with_reducible apply Vl.mk (α := Int)); · with_reducible first | exact q2)  |  (apply Sg.mk; · first | exact seg | exact seg') | ((with_reducible apply Vl.mk (α := Nat)); · exact aNt) | (with_reducible apply sd_draw; · kernel_rfl) | (apply Sd.mk; · exact aSd) | ((with_reducible apply Vl.mk (α := Int)); · exact aAr) | ((with_reducible first | apply Vl.mk (α := Bool) | apply Vl.mk (α := Nat) | apply Vl.mk (α := ByteArray) | apply Ge.mk (α := Row) | apply Ge.mk (α := SV) | apply Ge.mk (α := AV)); · exact rfl) | (refine And.intro rfl ?_) | ((with_reducible first | apply Vl.mk (α := List SV) | apply Vl.mk (α := Ef) | apply Vl.mk (α := TV) | apply Ge.mk (α := List SV) | apply Sg.mk | apply Sk.mk); · exact aCl) | ((first | apply Br.mk | apply Gd.mk) <;> (intro hb; first | exact aKl hb | (simp only [d1, d2, beq_iff_eq, bne_iff_ne, d3, d4, d5, d6, Int.not_lt, Int.not_le, ge_iff_le, gt_iff_lt, ne_eq, d7] at hb; first | (exfalso; omega) | skip) | skip)) | (apply Sd.mk; · exact aS2))); (all_goals (try (conv => whnf)))
      all_goals first
        | (refine ⟨mm - 1, eqst N (i + 1) LL L2, by omega, ?_, i + 1, by omega, hstep, rfl⟩
           (apply wk_of (m := [(0, some 0), (1, some 1)]); (focus ((repeat' (first | exact tml_nil | apply tml_cons)); all_goals (exact aFi))); (focus ((show HlS _ _ [] _); (exact aFi))); (focus (first | exact rfl | rfl | kernel_rfl))))
        | trace_state
    · obtain rfl : B = false := by rw [← hB]; exact decide_eq_false (ne_of_at hm hm' hmm)
      rw [decide_eq_false hmm] at he
      obtain ⟨o, a, b, c, k, n⟩ := m
      obtain ⟨o', a', b', c', k', n'⟩ := m'
      dsimp only [Mz.C] at seg seg' he
      clear hmm hm hm' hpre hB
      (repeat' ((conv => whnf); first | (refine Eqs.mk false (eqt_ok _ ks6 rfl _ _ _ (by with_reducible exact he)) ?_)  |  ((first | apply Br.mk | apply Gd.mk) <;> (intro hb; first | exact aK2 hb | (simp only [d1, d2, beq_iff_eq, bne_iff_ne, d3, d4, d5, d6, Int.not_lt, Int.not_le, ge_iff_le, gt_iff_lt, ne_eq, d7] at hb; first | (exfalso; omega) | skip) | skip))  |  (refine Eqs.mk _ (eqt_ok _ _ rfl _ _ _ rfl) ?_)  |  ((with_reducible apply Vl.mk (α := Int)); · with_reducible first | exact q2)  |  (apply Sg.mk; · first | exact seg | exact seg') | ((with_reducible apply Vl.mk (α := Nat)); · exact aNt) | (with_reducible apply sd_draw; · kernel_rfl) | (apply Sd.mk; · exact aSd) | ((with_reducible apply Vl.mk (α := Int)); · exact aAr) | ((with_reducible first | apply Vl.mk (α := Bool) | apply Vl.mk (α := Nat) | apply Vl.mk (α := ByteArray) | apply Ge.mk (α := Row) | apply Ge.mk (α := SV) | apply Ge.mk (α := AV)); · exact rfl) | (refine And.intro rfl ?_) | ((with_reducible first | apply Vl.mk (α := List SV) | apply Vl.mk (α := Ef) | apply Vl.mk (α := TV) | apply Ge.mk (α := List SV) | apply Sg.mk | apply Sk.mk); · exact aCl) | ((first | apply Br.mk | apply Gd.mk) <;> (intro hb; first | exact aKl hb | (simp only [d1, d2, beq_iff_eq, bne_iff_ne, d3, d4, d5, d6, Int.not_lt, Int.not_le, ge_iff_le, gt_iff_lt, ne_eq, d7] at hb; first | (exfalso; omega) | skip) | skip)) | (apply Sd.mk; · exact aS2))); (all_goals (try (conv => whnf)))
      all_goals first | (apply Fin.mk (m := [(0, some 0), (1, some 1)]); (focus exact rfl); (all_goals ((try (show HlS _ _ [] _)); first | (exact aFi) | exact rfl))) | trace_state
  · obtain rfl : i = N := by omega
    obtain rfl : B = true := by
      rw [← hB]; rw [List.take_of_length_le (by omega), List.take_of_length_le (by omega)] at hpre
      exact decide_eq_true hpre
    (repeat' ((conv => whnf); first | ((first | apply Br.mk | apply Gd.mk) <;> (intro hb; first | exact aK2 hb | (simp only [d1, d2, beq_iff_eq, bne_iff_ne, d3, d4, d5, d6, Int.not_lt, Int.not_le, ge_iff_le, gt_iff_lt, ne_eq, d7] at hb; first | (exfalso; omega) | skip) | skip))  |  (refine Eqs.mk _ (eqt_ok _ _ rfl _ _ _ rfl) ?_) | ((with_reducible apply Vl.mk (α := Nat)); · exact aNt) | (with_reducible apply sd_draw; · kernel_rfl) | (apply Sd.mk; · exact aSd) | ((with_reducible apply Vl.mk (α := Int)); · exact aAr) | ((with_reducible first | apply Vl.mk (α := Bool) | apply Vl.mk (α := Nat) | apply Vl.mk (α := ByteArray) | apply Ge.mk (α := Row) | apply Ge.mk (α := SV) | apply Ge.mk (α := AV)); · exact rfl) | (refine And.intro rfl ?_) | ((with_reducible first | apply Vl.mk (α := List SV) | apply Vl.mk (α := Ef) | apply Vl.mk (α := TV) | apply Ge.mk (α := List SV) | apply Sg.mk | apply Sk.mk); · exact aCl) | ((first | apply Br.mk | apply Gd.mk) <;> (intro hb; first | exact aKl hb | (simp only [d1, d2, beq_iff_eq, bne_iff_ne, d3, d4, d5, d6, Int.not_lt, Int.not_le, ge_iff_le, gt_iff_lt, ne_eq, d7] at hb; first | (exfalso; omega) | skip) | skip)) | (apply Sd.mk; · exact aS2))); (all_goals (try (conv => whnf)))
    all_goals first | (apply Fin.mk (m := [(0, some 0), (1, some 1)]); (focus exact rfl); (all_goals ((try (show HlS _ _ [] _)); first | (exact aFi) | exact rfl))) | trace_state
theorem equalF_fn (l l' : List Mz) (N N' : Nat) (hN : l.length = N) (hN' : l'.length = N') (hN2 : N ≤ 1000000) (B : Bool) (hB : decide (l = l') = B) :
    Fn Try.prog 69 [.s (.fz 6 N (mzs l)), .s (.fz 6 N' (mzs l'))] [] (· = ⟨.a (.s (.bool B)), [], []⟩) := by
  have h1 := equalZ_fn l l' N N' hN hN' hN2 B hB
  have h2 : Fn Try.prog 69 [.s (.sl 0 0 N), .s (.fz 6 N' (mzs l'))] [⟨false, 6, mzs l⟩] (· = ⟨.a (.s (.bool B)), [], []⟩) := by
    refine fn_thaw (H := [⟨false, 6, mzs l⟩]) (es := 6) (n := N') (cells := mzs l') (R' := ⟨.a (.s (.bool B)), [], []⟩) [(0, some 0)] h1 (fun ρ vs h => hole_s (pre := [.s (.sl 0 0 N)]) (post := []) ρ vs h) ?_ ?_ rfl
    · exact tvm_a (avm_s (svm_same rfl))
    · show HlS _ _ [] _
      refine hls_row (rowmt_mk rfl rfl rfl rfl (svsm_scal (mzs_scal l))) ?_
      exact hls_nil
  refine fn_thaw (H := []) (es := 6) (n := N) (cells := mzs l) (R' := ⟨.a (.s (.bool B)), [], []⟩) [] h2 (fun ρ vs h => hole_s (pre := []) (post := [.s (.fz 6 N' (mzs l'))]) ρ vs h) ?_ ?_ rfl
  · exact tvm_a (avm_s (svm_same rfl))
  · exact hls_nil
end Go.Proofs.Ytcaddlighhiepaa

namespace Go.Proofs.Ytcaddlighhiepaa
open Go Go.RowKit
set_option linter.unusedSimpArgs false
set_option linter.unusedVariables false
def bkEq (b b' : Bk) : Bool := decide (b.A = b'.A ∧ b.L = b'.L ∧ b.l = b'.l)
theorem bkEq_iff (b b' : Bk) : bkEq b b' = true ↔ b = b' := by
  unfold bkEq
  rw [decide_eq_true_eq]
  constructor
  · rintro ⟨h1, h2, h3⟩
    cases b; cases b'; dsimp only at *; subst h1 h2 h3; rfl
  · rintro rfl; exact ⟨rfl, rfl, rfl⟩
set_option maxHeartbeats 1000000 in
set_option maxRecDepth 100000 in
theorem same_fn (b b' : Bk) (hb : b.ok) (B : Bool) (hB : bkEq b b' = B) :
    Fn Try.prog 45 [.agg b.C, .agg b'.C] [] (· = ⟨.a (.s (.bool B)), [], []⟩) := by
  obtain ⟨A, L, l⟩ := b
  obtain ⟨A', L', l'⟩ := b'
  unfold bkEq at hB
  dsimp only [Bk.C] at *
  have ce := equalF_fn l l' l.length l'.length rfl rfl hb.2.1 _ rfl
  clear hb
  by_cases h1 : A = A'
  · by_cases h2 : L = L'
    · have h3 : decide (l = l') = B := by rw [← hB, decide_eq_decide]; exact ⟨fun h => ⟨h1, h2, h⟩, fun h => h.2.2⟩
      rw [h3] at ce
      clear hB h3
      subst h1 h2
      generalize mzs l = M at *
      generalize mzs l' = M' at *
      generalize l.length = N at *
      generalize l'.length = N' at *
      refine fn_of_vc mixed tys_ok _ _ Try.func45 (by kernel_rfl) rfl Try.ntmps45 (by rw [Try.results45]) rfl ?_; dsimp only [argTm, argHl, Nat.zero_add, Nat.reduceAdd, List.length_nil, List.length_cons]
      (repeat' ((conv => whnf); first | ((first | apply Br.mk | apply Gd.mk) <;> (intro hb; first | exact aK2 hb | (simp only [d1, d2, beq_iff_eq, bne_iff_ne, d3, d4, d5, d6, Int.not_lt, Int.not_le, ge_iff_le, gt_iff_lt, ne_eq, d7] at hb; first | (exfalso; omega) | skip) | skip))  |  (refine Eqs.mk _ (eqt_ok _ _ rfl _ _ _ rfl) ?_)  |  (refine vcall_pure (ce) rfl ?_) | ((with_reducible apply Vl.mk (α := Nat)); · exact aNt) | (with_reducible apply sd_draw; · kernel_rfl) | (apply Sd.mk; · exact aSd) | ((with_reducible apply Vl.mk (α := Int)); · exact aAr) | ((with_reducible first | apply Vl.mk (α := Bool) | apply Vl.mk (α := Nat) | apply Vl.mk (α := ByteArray) | apply Ge.mk (α := Row) | apply Ge.mk (α := SV) | apply Ge.mk (α := AV)); · exact rfl) | (refine And.intro rfl ?_) | ((with_reducible first | apply Vl.mk (α := List SV) | apply Vl.mk (α := Ef) | apply Vl.mk (α := TV) | apply Ge.mk (α := List SV) | apply Sg.mk | apply Sk.mk); · exact aCl) | ((first | apply Br.mk | apply Gd.mk) <;> (intro hb; first | exact aKl hb | (simp only [d1, d2, beq_iff_eq, bne_iff_ne, d3, d4, d5, d6, Int.not_lt, Int.not_le, ge_iff_le, gt_iff_lt, ne_eq, d7] at hb; first | (exfalso; omega) | skip) | skip)) | (apply Sd.mk; · exact aS2))); (all_goals (try (conv => whnf)))
      all_goals first | (exfalso; simp at hb; done) | (apply Fin.mk (m := []); (focus exact rfl); (all_goals ((try (show HlS _ _ [] _)); first | (exact aFi) | exact rfl))) | trace_state
    · obtain rfl : B = false := by rw [← hB]; exact decide_eq_false (fun h => h2 h.2.1)
      subst h1
      clear hB ce
      generalize mzs l = M at *
      generalize mzs l' = M' at *
      generalize l.length = N at *
      generalize l'.length = N' at *
      refine fn_of_vc mixed tys_ok _ _ Try.func45 (by kernel_rfl) rfl Try.ntmps45 (by rw [Try.results45]) rfl ?_; dsimp only [argTm, argHl, Nat.zero_add, Nat.reduceAdd, List.length_nil, List.length_cons]
      (repeat' ((conv => whnf); first | ((first | apply Br.mk | apply Gd.mk) <;> (intro hb; first | exact aK2 hb | (simp only [d1, d2, beq_iff_eq, bne_iff_ne, d3, d4, d5, d6, Int.not_lt, Int.not_le, ge_iff_le, gt_iff_lt, ne_eq, d7] at hb; first | (exfalso; omega) | skip) | skip))  |  (refine Eqs.mk _ (eqt_ok _ _ rfl _ _ _ rfl) ?_) | ((with_reducible apply Vl.mk (α := Nat)); · exact aNt) | (with_reducible apply sd_draw; · kernel_rfl) | (apply Sd.mk; · exact aSd) | ((with_reducible apply Vl.mk (α := Int)); · exact aAr) | ((with_reducible first | apply Vl.mk (α := Bool) | apply Vl.mk (α := Nat) | apply Vl.mk (α := ByteArray) | apply Ge.mk (α := Row) | apply Ge.mk (α := SV) | apply Ge.mk (α := AV)); · exact rfl) | (refine And.intro rfl ?_) | ((with_reducible first | apply Vl.mk (α := List SV) | apply Vl.mk (α := Ef) | apply Vl.mk (α := TV) | apply Ge.mk (α := List SV) | apply Sg.mk | apply Sk.mk); · exact aCl) | ((first | apply Br.mk | apply Gd.mk) <;> (intro hb; first | exact aKl hb | (simp only [d1, d2, beq_iff_eq, bne_iff_ne, d3, d4, d5, d6, Int.not_lt, Int.not_le, ge_iff_le, gt_iff_lt, ne_eq, d7] at hb; first | (exfalso; omega) | skip) | skip)) | (apply Sd.mk; · exact aS2))); (all_goals (try (conv => whnf)))
      all_goals first | (exfalso; simp at hb; done) | (apply Fin.mk (m := []); (focus exact rfl); (all_goals ((try (show HlS _ _ [] _)); first | (exact aFi) | exact rfl))) | trace_state
  · obtain rfl : B = false := by rw [← hB]; exact decide_eq_false (fun h => h1 h.1)
    clear hB ce
    have h1' : ¬ (A : Int) = (A' : Int) := by omega
    clear h1
    generalize mzs l = M at *
    generalize mzs l' = M' at *
    generalize l.length = N at *
    generalize l'.length = N' at *
    refine fn_of_vc mixed tys_ok _ _ Try.func45 (by kernel_rfl) rfl Try.ntmps45 (by rw [Try.results45]) rfl ?_; dsimp only [argTm, argHl, Nat.zero_add, Nat.reduceAdd, List.length_nil, List.length_cons]
    (repeat' ((conv => whnf); first | ((first | apply Br.mk | apply Gd.mk) <;> (intro hb; first | exact aK2 hb | (simp only [d1, d2, beq_iff_eq, bne_iff_ne, d3, d4, d5, d6, Int.not_lt, Int.not_le, ge_iff_le, gt_iff_lt, ne_eq, d7] at hb; first | (exfalso; omega) | skip) | skip))  |  (refine Eqs.mk _ (eqt_ok _ _ rfl _ _ _ rfl) ?_) | ((with_reducible apply Vl.mk (α := Nat)); · exact aNt) | (with_reducible apply sd_draw; · kernel_rfl) | (apply Sd.mk; · exact aSd) | ((with_reducible apply Vl.mk (α := Int)); · exact aAr) | ((with_reducible first | apply Vl.mk (α := Bool) | apply Vl.mk (α := Nat) | apply Vl.mk (α := ByteArray) | apply Ge.mk (α := Row) | apply Ge.mk (α := SV) | apply Ge.mk (α := AV)); · exact rfl) | (refine And.intro rfl ?_) | ((with_reducible first | apply Vl.mk (α := List SV) | apply Vl.mk (α := Ef) | apply Vl.mk (α := TV) | apply Ge.mk (α := List SV) | apply Sg.mk | apply Sk.mk); · exact aCl) | ((first | apply Br.mk | apply Gd.mk) <;> (intro hb; first | exact aKl hb | (simp only [d1, d2, beq_iff_eq, bne_iff_ne, d3, d4, d5, d6, Int.not_lt, Int.not_le, ge_iff_le, gt_iff_lt, ne_eq, d7] at hb; first | (exfalso; omega) | skip) | skip)) | (apply Sd.mk; · exact aS2))); (all_goals (try (conv => whnf)))
    all_goals first | (exfalso; simp at hb; done) | (apply Fin.mk (m := []); (focus exact rfl); (all_goals ((try (show HlS _ _ [] _)); first | (exact aFi) | exact rfl))) | trace_state
end Go.Proofs.Ytcaddlighhiepaa
