/- Caches: SameBlock, SameBlocks. -/
import Derived.Test.YtcaddlighhiepaaCcM
namespace Go.Proofs.Ytcaddlighhiepaa
open Go Go.RowKit
set_option linter.unusedSimpArgs false
set_option linter.unusedVariables false

def sb2st (A A' : Nat) (L L' : Int) (N N' : Nat) (LL L2 : List SV) (i : Nat) : St :=
  ⟨[(2, .a (.s (.ptr 2 0))), (3, .a (.s (.ptr 3 0))), (5, .a (.s (.int .i64 i)))],
   [(0, some ⟨false, 6, LL⟩), (1, some ⟨false, 6, L2⟩), (2, some ⟨true, 1, [.int .u32 A, .int .i64 L, .sl 0 0 N]⟩), (3, some ⟨true, 1, [.int .u32 A', .int .i64 L', .sl 1 0 N']⟩)], [0]⟩
set_option maxHeartbeats 2000000 in
set_option maxRecDepth 100000 in
theorem sameblkZ_fn (A A' : Nat) (L L' : Int) (l l' : List Mz) (N N' : Nat) (hN : l.length = N) (hN' : l'.length = N') (hN2 : N ≤ 1000000) (B : Bool) (hB : bkEq ⟨A, L, l⟩ ⟨A', L', l'⟩ = B) :
    Fn Try.prog 14 [.agg [.int .u32 A, .int .i64 L, .sl 0 0 N], .agg [.int .u32 A', .int .i64 L', .sl 1 0 N']] [⟨false, 6, mzs l⟩, ⟨false, 6, mzs l'⟩] (· = ⟨.a (.s (.bool B)), [], []⟩) := by
  have hsc := mzs_scal l
  have hseg := mzs_seg l
  have hsc' := mzs_scal l'
  have hseg' := mzs_seg l'
  generalize hLL : mzs l = LL at *
  generalize hL2 : mzs l' = L2 at *
  unfold bkEq at hB
  dsimp only at hB
  by_cases h1 : A = A'
  case neg =>
    obtain rfl : B = false := by rw [← hB]; exact decide_eq_false (fun h => h1 h.1)
    have h1' : ¬ (A : Int) = (A' : Int) := by omega
    clear hB h1 hLL hL2
    refine fn_of_vc mixed tys_ok _ _ Try.func14 (by kernel_rfl) rfl Try.ntmps14 (by rw [Try.results14]) rfl ?_; dsimp only [argTm, argHl, Nat.zero_add, Nat.reduceAdd, List.length_nil, List.length_cons]
    (repeat' ((conv => whnf); first | ((first | apply Br.mk | apply Gd.mk) <;> (intro hb; first | exact aK2 hb | (simp only [d1, d2, beq_iff_eq, bne_iff_ne, d3, d4, d5, d6, Int.not_lt, Int.not_le, ge_iff_le, gt_iff_lt, ne_eq, d7] at hb; first | (exfalso; omega) | skip) | skip))  |  (refine Eqs.mk _ (eqt_ok _ _ rfl _ _ _ rfl) ?_) | ((with_reducible apply Vl.mk (α := Nat)); · exact aNt) | (with_reducible apply sd_draw; · kernel_rfl) | (apply Sd.mk; · exact aSd) | ((with_reducible apply Vl.mk (α := Int)); · exact aAr) | ((with_reducible first | apply Vl.mk (α := Bool) | apply Vl.mk (α := Nat) | apply Vl.mk (α := ByteArray) | apply Ge.mk (α := Row) | apply Ge.mk (α := SV) | apply Ge.mk (α := AV)); · exact rfl) | (refine And.intro rfl ?_) | ((with_reducible first | apply Vl.mk (α := List SV) | apply Vl.mk (α := Ef) | apply Vl.mk (α := TV) | apply Ge.mk (α := List SV) | apply Sg.mk | apply Sk.mk); · exact aCl) | ((first | apply Br.mk | apply Gd.mk) <;> (intro hb; first | exact aKl hb | (simp only [d1, d2, beq_iff_eq, bne_iff_ne, d3, d4, d5, d6, Int.not_lt, Int.not_le, ge_iff_le, gt_iff_lt, ne_eq, d7] at hb; first | (exfalso; omega) | skip) | skip)) | (apply Sd.mk; · exact aS2))); (all_goals (try (conv => whnf)))
    all_goals first | (exfalso; simp at hb; done) | (apply Fin.mk (m := [(0, some 0), (1, some 1)]); (focus exact rfl); (all_goals ((try (show HlS _ _ [] _)); first | (exact aFi) | exact rfl))) | trace_state
  by_cases h2 : L = L'
  case neg =>
    obtain rfl : B = false := by rw [← hB]; exact decide_eq_false (fun h => h2 h.2.1)
    subst h1
    clear hB hLL hL2
    refine fn_of_vc mixed tys_ok _ _ Try.func14 (by kernel_rfl) rfl Try.ntmps14 (by rw [Try.results14]) rfl ?_; dsimp only [argTm, argHl, Nat.zero_add, Nat.reduceAdd, List.length_nil, List.length_cons]
    (repeat' ((conv => whnf); first | ((first | apply Br.mk | apply Gd.mk) <;> (intro hb; first | exact aK2 hb | (simp only [d1, d2, beq_iff_eq, bne_iff_ne, d3, d4, d5, d6, Int.not_lt, Int.not_le, ge_iff_le, gt_iff_lt, ne_eq, d7] at hb; first | (exfalso; omega) | skip) | skip))  |  (refine Eqs.mk _ (eqt_ok _ _ rfl _ _ _ rfl) ?_) | ((with_reducible apply Vl.mk (α := Nat)); · exact aNt) | (with_reducible apply sd_draw; · kernel_rfl) | (apply Sd.mk; · exact aSd) | ((with_reducible apply Vl.mk (α := Int)); · exact aAr) | ((with_reducible first | apply Vl.mk (α := Bool) | apply Vl.mk (α := Nat) | apply Vl.mk (α := ByteArray) | apply Ge.mk (α := Row) | apply Ge.mk (α := SV) | apply Ge.mk (α := AV)); · exact rfl) | (refine And.intro rfl ?_) | ((with_reducible first | apply Vl.mk (α := List SV) | apply Vl.mk (α := Ef) | apply Vl.mk (α := TV) | apply Ge.mk (α := List SV) | apply Sg.mk | apply Sk.mk); · exact aCl) | ((first | apply Br.mk | apply Gd.mk) <;> (intro hb; first | exact aKl hb | (simp only [d1, d2, beq_iff_eq, bne_iff_ne, d3, d4, d5, d6, Int.not_lt, Int.not_le, ge_iff_le, gt_iff_lt, ne_eq, d7] at hb; first | (exfalso; omega) | skip) | skip)) | (apply Sd.mk; · exact aS2))); (all_goals (try (conv => whnf)))
    all_goals first | (exfalso; simp at hb; done) | (apply Fin.mk (m := [(0, some 0), (1, some 1)]); (focus exact rfl); (all_goals ((try (show HlS _ _ [] _)); first | (exact aFi) | exact rfl))) | trace_state
  subst h1 h2
  by_cases hne : N = N'
  case neg =>
    obtain rfl : B = false := by rw [← hB]; exact decide_eq_false (fun h => hne (by rw [← hN, ← hN', h.2.2]))
    refine fn_of_vc mixed tys_ok _ _ Try.func14 (by kernel_rfl) rfl Try.ntmps14 (by rw [Try.results14]) rfl ?_; dsimp only [argTm, argHl, Nat.zero_add, Nat.reduceAdd, List.length_nil, List.length_cons]
    (repeat' ((conv => whnf); first | ((first | apply Br.mk | apply Gd.mk) <;> (intro hb; first | exact aK2 hb | (simp only [d1, d2, beq_iff_eq, bne_iff_ne, d3, d4, d5, d6, Int.not_lt, Int.not_le, ge_iff_le, gt_iff_lt, ne_eq, d7] at hb; first | (exfalso; omega) | skip) | skip))  |  (refine Eqs.mk _ (eqt_ok _ _ rfl _ _ _ rfl) ?_) | ((with_reducible apply Vl.mk (α := Nat)); · exact aNt) | (with_reducible apply sd_draw; · kernel_rfl) | (apply Sd.mk; · exact aSd) | ((with_reducible apply Vl.mk (α := Int)); · exact aAr) | ((with_reducible first | apply Vl.mk (α := Bool) | apply Vl.mk (α := Nat) | apply Vl.mk (α := ByteArray) | apply Ge.mk (α := Row) | apply Ge.mk (α := SV) | apply Ge.mk (α := AV)); · exact rfl) | (refine And.intro rfl ?_) | ((with_reducible first | apply Vl.mk (α := List SV) | apply Vl.mk (α := Ef) | apply Vl.mk (α := TV) | apply Ge.mk (α := List SV) | apply Sg.mk | apply Sk.mk); · exact aCl) | ((first | apply Br.mk | apply Gd.mk) <;> (intro hb; first | exact aKl hb | (simp only [d1, d2, beq_iff_eq, bne_iff_ne, d3, d4, d5, d6, Int.not_lt, Int.not_le, ge_iff_le, gt_iff_lt, ne_eq, d7] at hb; first | (exfalso; omega) | skip) | skip)) | (apply Sd.mk; · exact aS2))); (all_goals (try (conv => whnf)))
    all_goals first | (exfalso; simp at hb; done) | (exfalso; omega) | (apply Fin.mk (m := [(0, some 0), (1, some 1)]); (focus exact rfl); (all_goals ((try (show HlS _ _ [] _)); first | (exact aFi) | exact rfl))) | trace_state
  subst hne
  refine fn_of_vc mixed tys_ok _ _ Try.func14 (by kernel_rfl) rfl Try.ntmps14 (by rw [Try.results14]) rfl ?_; dsimp only [argTm, argHl, Nat.zero_add, Nat.reduceAdd, List.length_nil, List.length_cons]
  (repeat' ((conv => whnf); first | ((first | apply Br.mk | apply Gd.mk) <;> (intro hb; first | exact aK2 hb | (simp only [d1, d2, beq_iff_eq, bne_iff_ne, d3, d4, d5, d6, Int.not_lt, Int.not_le, ge_iff_le, gt_iff_lt, ne_eq, d7] at hb; first | (exfalso; omega) | skip) | skip))  |  (refine Eqs.mk _ (eqt_ok _ _ rfl _ _ _ rfl) ?_) | ((with_reducible apply Vl.mk (α := Nat)); · exact aNt) | (with_reducible apply sd_draw; · kernel_rfl) | (apply Sd.mk; · exact aSd) | ((with_reducible apply Vl.mk (α := Int)); · exact aAr) | ((with_reducible first | apply Vl.mk (α := Bool) | apply Vl.mk (α := Nat) | apply Vl.mk (α := ByteArray) | apply Ge.mk (α := Row) | apply Ge.mk (α := SV) | apply Ge.mk (α := AV)); · exact rfl) | (refine And.intro rfl ?_) | ((with_reducible first | apply Vl.mk (α := List SV) | apply Vl.mk (α := Ef) | apply Vl.mk (α := TV) | apply Ge.mk (α := List SV) | apply Sg.mk | apply Sk.mk); · exact aCl) | ((first | apply Br.mk | apply Gd.mk) <;> (intro hb; first | exact aKl hb | (simp only [d1, d2, beq_iff_eq, bne_iff_ne, d3, d4, d5, d6, Int.not_lt, Int.not_le, ge_iff_le, gt_iff_lt, ne_eq, d7] at hb; first | (exfalso; omega) | skip) | skip)) | (apply Sd.mk; · exact aS2))); (all_goals (try (conv => whnf)))
  all_goals first | (exfalso; simp at hb; done) | skip
  refine Lp.inv (fun mm σ => ∃ i, mm + i = N ∧ l.take i = l'.take i ∧ σ = sb2st A A L L N N LL L2 i) ?_ ?_
  · refine ⟨N, sb2st A A L L N N LL L2 0, ?_, 0, by omega, rfl, rfl⟩
    (apply wk_of (m := [(0, some 0), (1, some 1), (2, some _), (3, some _)]); (focus ((repeat' (first | exact tml_nil | apply tml_cons)); all_goals (exact aFi))); (focus ((show HlS _ _ [] _); (exact aFi))); (focus (first | exact rfl | rfl | kernel_rfl)))
  rintro mm σ ⟨i, hmi, hpre, rfl⟩
  unfold sb2st
  by_cases hiN : i < N
  · obtain ⟨m, hm⟩ : ∃ m, l[i]? = some m := ⟨l[i]'(by omega), List.getElem?_eq_getElem (by omega)⟩
    obtain ⟨m', hm'⟩ : ∃ m, l'[i]? = some m := ⟨l'[i]'(by omega), List.getElem?_eq_getElem (by omega)⟩
    have seg := hseg i _ hm
    have seg' := hseg' i _ hm'
    have he := eq6D m m'
    have q2 : IntKind.i64.wrap ((i : Int) + 1) = ((i + 1 : Nat) : Int) := by rw [wi64 (by omega) (by omega)]; omega
    by_cases hmm : m = m'
    · have hstep := take_eq_step hpre hm hm' hmm
      rw [decide_eq_true hmm] at he
      obtain ⟨o, a, b, c, k, n⟩ := m
      obtain ⟨o', a', b', c', k', n'⟩ := m'
      dsimp only [Mz.C] at seg seg' he
      clear hmm hm hm' hpre hB
      (repeat' ((conv => whnf); first | (refine Eqs.mk true (eqt_ok _ ks6 rfl _ _ _ (by with_reducible exact he)) ?_)  |  ((first | apply Br.mk | apply Gd.mk) <;> (intro hb; first | exact aK2 hb | (simp only [d1, d2, beq_iff_eq, bne_iff_ne, d3, d4, d5, d6, Int.not_lt, Int.not_le, ge_iff_le, gt_iff_lt, ne_eq, d7] at hb; first | (exfalso; omega) | skip) | skip))  |  (refine Eqs.mk _ (eqt_ok _ _ rfl _ _ _ rfl) ?_)  |  ((with_reducible apply Vl.mk (α := Int)); · with_reducible first | exact q2)  |  (apply Sg.mk; · first | exact seg | exact seg') | ((with_reducible apply Vl.mk (α := Nat)); · exact aNt) | (with_reducible apply sd_draw; · kernel_rfl) | (apply Sd.mk; · exact aSd) | ((with_reducible apply Vl.mk (α := Int)); · exact aAr) | ((with_reducible first | apply Vl.mk (α := Bool) | apply Vl.mk (α := Nat) | apply Vl.mk (α := ByteArray) | apply Ge.mk (α := Row) | apply Ge.mk (α := SV) | apply Ge.mk (α := AV)); · exact rfl) | (refine And.intro rfl ?_) | ((with_reducible first | apply Vl.mk (α := List SV) | apply Vl.mk (α := Ef) | apply Vl.mk (α := TV) | apply Ge.mk (α := List SV) | apply Sg.mk | apply Sk.mk); · exact aCl) | ((first | apply Br.mk | apply Gd.mk) <;> (intro hb; first | exact aKl hb | (simp only [d1, d2, beq_iff_eq, bne_iff_ne, d3, d4, d5, d6, Int.not_lt, Int.not_le, ge_iff_le, gt_iff_lt, ne_eq, d7] at hb; first | (exfalso; omega) | skip) | skip)) | (apply Sd.mk; · exact aS2))); (all_goals (try (conv => whnf)))
      all_goals first
        | (refine ⟨mm - 1, sb2st A A L L N N LL L2 (i + 1), by omega, ?_, i + 1, by omega, hstep, rfl⟩
           (apply wk_of (m := [(0, some 0), (1, some 1), (2, some 2), (3, some 3)]); (focus ((repeat' (first | exact tml_nil | apply tml_cons)); all_goals (exact aFi))); (focus ((show HlS _ _ [] _); (exact aFi))); (focus (first | exact rfl | rfl | kernel_rfl))))
        | trace_state
    · obtain rfl : B = false := by rw [← hB]; exact decide_eq_false (fun h => ne_of_at hm hm' hmm h.2.2)
      rw [decide_eq_false hmm] at he
      obtain ⟨o, a, b, c, k, n⟩ := m
      obtain ⟨o', a', b', c', k', n'⟩ := m'
      dsimp only [Mz.C] at seg seg' he
      clear hmm hm hm' hpre hB
      (repeat' ((conv => whnf); first | (refine Eqs.mk false (eqt_ok _ ks6 rfl _ _ _ (by with_reducible exact he)) ?_)  |  ((first | apply Br.mk | apply Gd.mk) <;> (intro hb; first | exact aK2 hb | (simp only [d1, d2, beq_iff_eq, bne_iff_ne, d3, d4, d5, d6, Int.not_lt, Int.not_le, ge_iff_le, gt_iff_lt, ne_eq, d7] at hb; first | (exfalso; omega) | skip) | skip))  |  (refine Eqs.mk _ (eqt_ok _ _ rfl _ _ _ rfl) ?_)  |  ((with_reducible apply Vl.mk (α := Int)); · with_reducible first | exact q2)  |  (apply Sg.mk; · first | exact seg | exact seg') | ((with_reducible apply Vl.mk (α := Nat)); · exact aNt) | (with_reducible apply sd_draw; · kernel_rfl) | (apply Sd.mk; · exact aSd) | ((with_reducible apply Vl.mk (α := Int)); · exact aAr) | ((with_reducible first | apply Vl.mk (α := Bool) | apply Vl.mk (α := Nat) | apply Vl.mk (α := ByteArray) | apply Ge.mk (α := Row) | apply Ge.mk (α := SV) | apply Ge.mk (α := AV)); · exact rfl) | (refine And.intro rfl ?_) | ((with_reducible first | apply Vl.mk (α := List SV) | apply Vl.mk (α := Ef) | apply Vl.mk (α := TV) | apply Ge.mk (α := List SV) | apply Sg.mk | apply Sk.mk); · exact aCl) | ((first | apply Br.mk | apply Gd.mk) <;> (intro hb; first | exact aKl hb | (simp only [d1, d2, beq_iff_eq, bne_iff_ne, d3, d4, d5, d6, Int.not_lt, Int.not_le, ge_iff_le, gt_iff_lt, ne_eq, d7] at hb; first | (exfalso; omega) | skip) | skip)) | (apply Sd.mk; · exact aS2))); (all_goals (try (conv => whnf)))
      all_goals first | (apply Fin.mk (m := [(0, some 0), (1, some 1)]); (focus exact rfl); (all_goals ((try (show HlS _ _ [] _)); first | (exact aFi) | exact rfl))) | trace_state
  · obtain rfl : i = N := by omega
    obtain rfl : B = true := by
      rw [← hB]; rw [List.take_of_length_le (by omega), List.take_of_length_le (by omega)] at hpre
      exact decide_eq_true ⟨rfl, rfl, hpre⟩
    (repeat' ((conv => whnf); first | ((first | apply Br.mk | apply Gd.mk) <;> (intro hb; first | exact aK2 hb | (simp only [d1, d2, beq_iff_eq, bne_iff_ne, d3, d4, d5, d6, Int.not_lt, Int.not_le, ge_iff_le, gt_iff_lt, ne_eq, d7] at hb; first | (exfalso; omega) | skip) | skip))  |  (refine Eqs.mk _ (eqt_ok _ _ rfl _ _ _ rfl) ?_) | ((with_reducible apply Vl.mk (α := Nat)); · exact aNt) | (with_reducible apply sd_draw; · kernel_rfl) | (apply Sd.mk; · exact aSd) | ((with_reducible apply Vl.mk (α := Int)); · exact aAr) | ((with_reducible first | apply Vl.mk (α := Bool) | apply Vl.mk (α := Nat) | apply Vl.mk (α := ByteArray) | apply Ge.mk (α := Row) | apply Ge.mk (α := SV) | apply Ge.mk (α := AV)); · exact rfl) | (refine And.intro rfl ?_) | ((with_reducible first | apply Vl.mk (α := List SV) | apply Vl.mk (α := Ef) | apply Vl.mk (α := TV) | apply Ge.mk (α := List SV) | apply Sg.mk | apply Sk.mk); · exact aCl) | ((first | apply Br.mk | apply Gd.mk) <;> (intro hb; first | exact aKl hb | (simp only [d1, d2, beq_iff_eq, bne_iff_ne, d3, d4, d5, d6, Int.not_lt, Int.not_le, ge_iff_le, gt_iff_lt, ne_eq, d7] at hb; first | (exfalso; omega) | skip) | skip)) | (apply Sd.mk; · exact aS2))); (all_goals (try (conv => whnf)))
    all_goals first | (apply Fin.mk (m := [(0, some 0), (1, some 1)]); (focus exact rfl); (all_goals ((try (show HlS _ _ [] _)); first | (exact aFi) | exact rfl))) | trace_state
theorem sameblkF_fn (b b' : Bk) (hb : b.ok) (B : Bool) (hB : bkEq b b' = B) :
    Fn Try.prog 14 [.agg b.C, .agg b'.C] [] (· = ⟨.a (.s (.bool B)), [], []⟩) := by
  obtain ⟨A, L, l⟩ := b
  obtain ⟨A', L', l'⟩ := b'
  have h1 := sameblkZ_fn A A' L L' l l' _ _ rfl rfl hb.2.1 B hB
  have h2 : Fn Try.prog 14 [.agg [.int .u32 A, .int .i64 L, .sl 0 0 l.length], .agg [.int .u32 A', .int .i64 L', .fz 6 l'.length (mzs l')]] [⟨false, 6, mzs l⟩] (· = ⟨.a (.s (.bool B)), [], []⟩) := by
    refine fn_thaw (H := [⟨false, 6, mzs l⟩]) (es := 6) (n := l'.length) (cells := mzs l') (R' := ⟨.a (.s (.bool B)), [], []⟩) [(0, some 0)] h1 (fun ρ vs h => hole_a (pre := [.agg [.int .u32 A, .int .i64 L, .sl 0 0 l.length]]) (post := []) (l1 := [.int .u32 A', .int .i64 L']) (l2 := []) ρ vs h) ?_ ?_ rfl
    · exact tvm_a (avm_s (svm_same rfl))
    · show HlS _ _ [] _
      refine hls_row (rowmt_mk rfl rfl rfl rfl (svsm_scal (mzs_scal l))) ?_
      exact hls_nil
  refine fn_thaw (H := []) (es := 6) (n := l.length) (cells := mzs l) (R' := ⟨.a (.s (.bool B)), [], []⟩) [] h2 (fun ρ vs h => hole_a (pre := []) (post := [.agg [.int .u32 A', .int .i64 L', .fz 6 l'.length (mzs l')]]) (l1 := [.int .u32 A, .int .i64 L]) (l2 := []) ρ vs h) ?_ ?_ rfl
  · exact tvm_a (avm_s (svm_same rfl))
  · exact hls_nil
def sbsst (N i : Nat) (TT : List SV) : St :=
  ⟨[(0, .a (.s (.sl 0 0 N))), (1, .a (.s (.sl 1 0 N))), (5, .a (.s (.int .i64 i)))], [(0, some ⟨false, 3, TT⟩), (1, some ⟨false, 3, TT⟩)], [0]⟩
set_option maxHeartbeats 1000000 in
set_option maxRecDepth 100000 in
theorem sameblks_fn (t : List Bk) (N : Nat) (hN : t.length = N) (hN2 : N ≤ 1000000) (hok : ∀ b ∈ t, b.ok) :
    Fn Try.prog 15 [.s (.sl 0 0 N), .s (.sl 1 0 N)] [⟨false, 3, bks t⟩, ⟨false, 3, bks t⟩] (· = ⟨.a (.s (.bool true)), [], []⟩) := by
  have hst := bks_scal t
  have hsg := bks_seg t
  generalize hTT : bks t = TT at *
  refine fn_of_vc mixed tys_ok _ _ Try.func15 (by kernel_rfl) rfl Try.ntmps15 (by rw [Try.results15]) rfl ?_; dsimp only [argTm, argHl, Nat.zero_add, Nat.reduceAdd, List.length_nil, List.length_cons]
  (repeat' ((conv => whnf); first | ((first | apply Br.mk | apply Gd.mk) <;> (intro hb; first | exact aK2 hb | (simp only [d1, d2, beq_iff_eq, bne_iff_ne, d3, d4, d5, d6, Int.not_lt, Int.not_le, ge_iff_le, gt_iff_lt, ne_eq, d7] at hb; first | (exfalso; omega) | skip) | skip))  |  (refine Eqs.mk _ (eqt_ok _ _ rfl _ _ _ rfl) ?_) | ((with_reducible apply Vl.mk (α := Nat)); · exact aNt) | (with_reducible apply sd_draw; · kernel_rfl) | (apply Sd.mk; · exact aSd) | ((with_reducible apply Vl.mk (α := Int)); · exact aAr) | ((with_reducible first | apply Vl.mk (α := Bool) | apply Vl.mk (α := Nat) | apply Vl.mk (α := ByteArray) | apply Ge.mk (α := Row) | apply Ge.mk (α := SV) | apply Ge.mk (α := AV)); · exact rfl) | (refine And.intro rfl ?_) | ((with_reducible first | apply Vl.mk (α := List SV) | apply Vl.mk (α := Ef) | apply Vl.mk (α := TV) | apply Ge.mk (α := List SV) | apply Sg.mk | apply Sk.mk); · exact aCl) | ((first | apply Br.mk | apply Gd.mk) <;> (intro hb; first | exact aKl hb | (simp only [d1, d2, beq_iff_eq, bne_iff_ne, d3, d4, d5, d6, Int.not_lt, Int.not_le, ge_iff_le, gt_iff_lt, ne_eq, d7] at hb; first | (exfalso; omega) | skip) | skip)) | (apply Sd.mk; · exact aS2))); (all_goals (try (conv => whnf)))
  refine Lp.inv (fun mm σ => ∃ i, mm + i = N ∧ σ = sbsst N i TT) ?_ ?_
  · refine ⟨N, sbsst N 0 TT, ?_, 0, by omega, rfl⟩
    (apply wk_of (m := [(0, some 0), (1, some 1)]); (focus ((repeat' (first | exact tml_nil | apply tml_cons)); all_goals (exact aFi))); (focus ((show HlS _ _ [] _); (exact aFi))); (focus (first | exact rfl | rfl | kernel_rfl)))
  · rintro mm σ ⟨i, hmi, rfl⟩
    unfold sbsst
    by_cases hiN : i < N
    · obtain ⟨b, hm'⟩ : ∃ m, t[i]? = some m := ⟨t[i]'(by omega), List.getElem?_eq_getElem (by omega)⟩
      have seg := hsg i _ hm'
      have cs := sameblkF_fn b b (hok b (List.mem_of_getElem? hm')) true ((bkEq_iff b b).2 rfl)
      obtain ⟨A, L, l⟩ := b
      dsimp only [Bk.C] at seg cs
      clear hsg hok hm'
      generalize l.length = K at *
      generalize mzs l = M at *
      (repeat' ((conv => whnf); first | (apply Sg.mk; · exact seg)  |  (refine vcall_pure (cs) rfl ?_)  |  ((first | apply Br.mk | apply Gd.mk) <;> (intro hb; first | exact aK2 hb | (simp only [d1, d2, beq_iff_eq, bne_iff_ne, d3, d4, d5, d6, Int.not_lt, Int.not_le, ge_iff_le, gt_iff_lt, ne_eq, d7] at hb; first | (exfalso; omega) | skip) | skip))  |  (refine Eqs.mk _ (eqt_ok _ _ rfl _ _ _ rfl) ?_) | ((with_reducible apply Vl.mk (α := Nat)); · exact aNt) | (with_reducible apply sd_draw; · kernel_rfl) | (apply Sd.mk; · exact aSd) | ((with_reducible apply Vl.mk (α := Int)); · exact aAr) | ((with_reducible first | apply Vl.mk (α := Bool) | apply Vl.mk (α := Nat) | apply Vl.mk (α := ByteArray) | apply Ge.mk (α := Row) | apply Ge.mk (α := SV) | apply Ge.mk (α := AV)); · exact rfl) | (refine And.intro rfl ?_) | ((with_reducible first | apply Vl.mk (α := List SV) | apply Vl.mk (α := Ef) | apply Vl.mk (α := TV) | apply Ge.mk (α := List SV) | apply Sg.mk | apply Sk.mk); · exact aCl) | ((first | apply Br.mk | apply Gd.mk) <;> (intro hb; first | exact aKl hb | (simp only [d1, d2, beq_iff_eq, bne_iff_ne, d3, d4, d5, d6, Int.not_lt, Int.not_le, ge_iff_le, gt_iff_lt, ne_eq, d7] at hb; first | (exfalso; omega) | skip) | skip)) | (apply Sd.mk; · exact aS2))); (all_goals (try (conv => whnf)))
      all_goals first
        | (exfalso; simp at hb; done)
        | (refine ⟨mm - 1, sbsst N (i + 1) TT, by omega, ?_, i + 1, by omega, rfl⟩
           (apply wk_of (m := [(0, some 0), (1, some 1)]); (focus ((repeat' (first | exact tml_nil | apply tml_cons)); all_goals (exact aFi))); (focus ((show HlS _ _ [] _); (exact aFi))); (focus (first | exact rfl | rfl | kernel_rfl))))
        | trace_state
    · (repeat' ((conv => whnf); first | ((with_reducible apply Vl.mk (α := Nat)); · exact aNt) | (with_reducible apply sd_draw; · kernel_rfl) | (apply Sd.mk; · exact aSd) | ((with_reducible apply Vl.mk (α := Int)); · exact aAr) | ((with_reducible first | apply Vl.mk (α := Bool) | apply Vl.mk (α := Nat) | apply Vl.mk (α := ByteArray) | apply Ge.mk (α := Row) | apply Ge.mk (α := SV) | apply Ge.mk (α := AV)); · exact rfl) | (refine And.intro rfl ?_) | ((with_reducible first | apply Vl.mk (α := List SV) | apply Vl.mk (α := Ef) | apply Vl.mk (α := TV) | apply Ge.mk (α := List SV) | apply Sg.mk | apply Sk.mk); · exact aCl) | ((first | apply Br.mk | apply Gd.mk) <;> (intro hb; first | exact aKl hb | (simp only [d1, d2, beq_iff_eq, bne_iff_ne, d3, d4, d5, d6, Int.not_lt, Int.not_le, ge_iff_le, gt_iff_lt, ne_eq, d7] at hb; first | (exfalso; omega) | skip) | skip)) | (apply Sd.mk; · exact aS2))); (all_goals (try (conv => whnf)))
      all_goals first | (apply Fin.mk (m := [(0, some 0), (1, some 1)]); (focus exact rfl); (all_goals ((try (show HlS _ _ [] _)); first | (exact aFi) | exact rfl))) | trace_state
end Go.Proofs.Ytcaddlighhiepaa
