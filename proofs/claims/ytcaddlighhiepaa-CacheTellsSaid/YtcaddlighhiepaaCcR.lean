/- Caches: the reference's Invalidate and Find. -/
import Derived.Test.YtcaddlighhiepaaCcQ
namespace Go.Proofs.Ytcaddlighhiepaa
open Go Go.RowKit
set_option linter.unusedSimpArgs false
set_option linter.unusedVariables false

theorem rframeF_fn (A : Nat) (hA : A < 4294967296) (L : Int) (l : List Mz) (N : Nat) : Fn Try.prog 42 [.agg [.int .u32 A, .int .i64 L, .fz 6 N (mzs l)]] [] (· = ⟨.a (.s (.int .i64 ((A / 128 : Nat) : Int))), [], []⟩) := by
  refine fn_thaw (H := []) (es := 6) (n := N) (cells := mzs l) (R' := ⟨.a (.s (.int .i64 ((A / 128 : Nat) : Int))), [], []⟩) [] (rframe_fn A hA L N (mzs l) (mzs_scal l)) (fun ρ vs h => hole_a (pre := []) (post := []) (l1 := [.int .u32 A, .int .i64 L]) (l2 := []) ρ vs h) ?_ ?_ rfl
  · exact tvm_a (avm_s (svm_same rfl))
  · exact hls_nil
def rvst (N K i : Nat) (fr : Int) (CC OO : List SV) : St :=
  ⟨[(0, .a (.s (.sl 0 0 N))), (1, .a (.s (.int .i64 fr))), (5, .a (.s (.sl 1 0 K))), (6, .a (.s (.int .i64 i)))], [(0, some ⟨false, 3, CC⟩), (1, some ⟨true, 3, OO⟩)], [0]⟩
set_option maxHeartbeats 2000000 in
set_option maxRecDepth 100000 in
theorem rinvalidate_fn (c : List Bk) (N : Nat) (hN : c.length = N) (hN2 : N ≤ 1000000) (hok : ∀ b ∈ c, b.ok) (fr : Int) (W : List Bk) (hW : c.filter (fun b => decide (fk b ≠ fr)) = W) (r : Nat) (hr : W.length = r) :
    Fn Try.prog 19 [.s (.sl 0 0 N), .s (.int .i64 fr)] [⟨false, 3, bks c⟩] (· = ⟨.a (.s (.sl 1 0 r)), [], [⟨true, 3, bks W⟩]⟩) := by
  have s1 := bks_scal c
  have hsg := bks_seg c
  generalize hCV : bks c = CV at *
  refine fn_of_vc mixed tys_ok _ _ Try.func19 (by kernel_rfl) rfl Try.ntmps19 (by rw [Try.results19]) rfl ?_; dsimp only [argTm, argHl, Nat.zero_add, Nat.reduceAdd, List.length_nil, List.length_cons]
  (repeat' ((conv => whnf); first | ((first | apply Br.mk | apply Gd.mk) <;> (intro hb; first | exact aK2 hb | (simp only [d1, d2, beq_iff_eq, bne_iff_ne, d3, d4, d5, d6, Int.not_lt, Int.not_le, ge_iff_le, gt_iff_lt, ne_eq, d7] at hb; first | (exfalso; omega) | skip) | skip))  |  (refine Eqs.mk _ (eqt_ok _ _ rfl _ _ _ rfl) ?_) | ((with_reducible apply Vl.mk (α := Nat)); · exact aNt) | (with_reducible apply sd_draw; · kernel_rfl) | (apply Sd.mk; · exact aSd) | ((with_reducible apply Vl.mk (α := Int)); · exact aAr) | ((with_reducible first | apply Vl.mk (α := Bool) | apply Vl.mk (α := Nat) | apply Vl.mk (α := ByteArray) | apply Ge.mk (α := Row) | apply Ge.mk (α := SV) | apply Ge.mk (α := AV)); · exact rfl) | (refine And.intro rfl ?_) | ((with_reducible first | apply Vl.mk (α := List SV) | apply Vl.mk (α := Ef) | apply Vl.mk (α := TV) | apply Ge.mk (α := List SV) | apply Sg.mk | apply Sk.mk); · exact aCl) | ((first | apply Br.mk | apply Gd.mk) <;> (intro hb; first | exact aKl hb | (simp only [d1, d2, beq_iff_eq, bne_iff_ne, d3, d4, d5, d6, Int.not_lt, Int.not_le, ge_iff_le, gt_iff_lt, ne_eq, d7] at hb; first | (exfalso; omega) | skip) | skip)) | (apply Sd.mk; · exact aS2))); (all_goals (try (conv => whnf)))
  refine Lp.inv (fun mm σ => ∃ (i : Nat) (w : List Bk), mm + i = N ∧ (c.take i).filter (fun b => decide (fk b ≠ fr)) = w ∧ w.length ≤ i ∧ σ = rvst N w.length i fr CV (bks w)) ?_ ?_
  · refine ⟨N, rvst N 0 0 fr CV [], ?_, 0, [], by omega, rfl, by decide, rfl⟩
    (apply wk_of (m := [(0, some 0), (1, none)]); (focus ((repeat' (first | exact tml_nil | apply tml_cons)); all_goals (exact aFi))); (focus ((show HlS _ _ [] _); (exact aFi))); (focus (first | exact rfl | rfl | kernel_rfl)))
  rintro mm σ ⟨i, w, hmi, hw, hwl, rfl⟩
  unfold rvst
  have h2 := bks_scal w
  have l2 : (bks w).length = w.length * 3 := bks_len w
  by_cases hi : i < N
  · obtain ⟨b, hb'⟩ : ∃ b, c[i]? = some b := ⟨c[i]'(by omega), List.getElem?_eq_getElem (by omega)⟩
    have seg := hsg i b hb'
    have hbk := hok b (List.mem_of_getElem? hb')
    have hft := filter_take (fun b => decide (fk b ≠ fr)) c i b hb'
    rw [hw] at hft
    have q2 : IntKind.i64.wrap ((i : Int) + 1) = ((i + 1 : Nat) : Int) := by rw [wi64 (by omega) (by omega)]; omega
    have cf := rframeF_fn b.A hbk.1 b.L b.l b.l.length
    change Fn _ _ _ _ (· = ⟨.a (.s (.int .i64 (fk b))), [], []⟩) at cf
    by_cases hc : fk b = fr
    · rw [if_neg (by rw [decide_eq_true_eq]; exact fun h => h hc)] at hft
      rw [hc] at cf
      clear hsg hb' hw hW hbk hc hok
      obtain ⟨bA, bL, bl⟩ := b
      dsimp only [Bk.C] at seg cf
      generalize hO1 : bks w = O1 at *
      generalize bl.length = bN at *
      generalize mzs bl = bM at *
      generalize hR : w.length = R at *
      (repeat' ((conv => whnf); first | ((first | apply Br.mk | apply Gd.mk) <;> (intro hb; first | exact aK2 hb | (simp only [d1, d2, beq_iff_eq, bne_iff_ne, d3, d4, d5, d6, Int.not_lt, Int.not_le, ge_iff_le, gt_iff_lt, ne_eq, d7] at hb; first | (exfalso; omega) | skip) | skip))  |  (refine Eqs.mk _ (eqt_ok _ _ rfl _ _ _ rfl) ?_)  |  ((with_reducible apply Vl.mk (α := Int)); · with_reducible first | exact q2)  |  (apply Sd.mk; · first | omega | (show (0 : Int) ≤ _ ∧ _ < _; omega))  |  (apply Sg.mk; · exact seg)  |  (refine vcall_pure (cf) rfl ?_) | ((with_reducible apply Vl.mk (α := Nat)); · exact aNt) | (with_reducible apply sd_draw; · kernel_rfl) | (apply Sd.mk; · exact aSd) | ((with_reducible apply Vl.mk (α := Int)); · exact aAr) | ((with_reducible first | apply Vl.mk (α := Bool) | apply Vl.mk (α := Nat) | apply Vl.mk (α := ByteArray) | apply Ge.mk (α := Row) | apply Ge.mk (α := SV) | apply Ge.mk (α := AV)); · exact rfl) | (refine And.intro rfl ?_) | ((with_reducible first | apply Vl.mk (α := List SV) | apply Vl.mk (α := Ef) | apply Vl.mk (α := TV) | apply Ge.mk (α := List SV) | apply Sg.mk | apply Sk.mk); · exact aCl) | ((first | apply Br.mk | apply Gd.mk) <;> (intro hb; first | exact aKl hb | (simp only [d1, d2, beq_iff_eq, bne_iff_ne, d3, d4, d5, d6, Int.not_lt, Int.not_le, ge_iff_le, gt_iff_lt, ne_eq, d7] at hb; first | (exfalso; omega) | skip) | skip)) | (apply Sd.mk; · exact aS2))); (all_goals (try (conv => whnf)))
      all_goals first
        | (exfalso; simp at hb; done)
        | (refine ⟨mm - 1, rvst N R (i + 1) fr CV O1, by omega, ?_, i + 1, w, by omega, hft, by omega, by rw [hO1, hR]; try rfl⟩
           (apply wk_of (m := [(0, some 0), (1, some _)]); (focus ((repeat' (first | exact tml_nil | apply tml_cons)); all_goals (exact aFi))); (focus ((show HlS _ _ [] _); (exact aFi))); (focus (first | exact rfl | rfl | kernel_rfl))))
        | trace_state
    · rw [if_pos (by rw [decide_eq_true_eq]; exact hc)] at hft
      have happ : bks w ++ b.C = bks (w ++ [b]) := by rw [bks_app]; rfl
      have h3 := bks_scal (w ++ [b])
      have hl2 : (w ++ [b]).length = w.length + 1 := by simp
      generalize fk b = kf at *
      clear hsg hb' hw hW hbk hok
      obtain ⟨bA, bL, bl⟩ := b
      dsimp only [Bk.C] at seg cf happ
      generalize hw2 : w ++ [(⟨bA, bL, bl⟩ : Bk)] = w2 at *
      generalize hO2 : bks w2 = O2 at *
      generalize bks w = O1 at *
      generalize hR : w.length = R at *
      generalize bl.length = bN at *
      generalize mzs bl = bM at *
      (repeat' ((conv => whnf); first | ((first | apply Br.mk | apply Gd.mk) <;> (intro hb; first | exact aK2 hb | (simp only [d1, d2, beq_iff_eq, bne_iff_ne, d3, d4, d5, d6, Int.not_lt, Int.not_le, ge_iff_le, gt_iff_lt, ne_eq, d7] at hb; first | (exfalso; omega) | skip) | skip))  |  (refine Eqs.mk _ (eqt_ok _ _ rfl _ _ _ rfl) ?_)  |  ((with_reducible apply Vl.mk (α := Int)); · with_reducible first | exact q2)  |  (apply Sd.mk; · first | omega | (show (0 : Int) ≤ _ ∧ _ < _; omega) | (refine ⟨rfl, rfl, ?_, ?_, ?_⟩; (focus (show O1.length = R * 3; omega)); (focus first | (show (R + 1) * 40 ≤ _; omega) | (show (R + 1) * 48 ≤ _; omega)); (focus omega)))  |  (apply Sg.mk; · exact seg)  |  ((with_reducible apply Vl.mk (α := List SV)); · exact happ)  |  (refine vcall_pure (cf) rfl ?_) | ((with_reducible apply Vl.mk (α := Nat)); · exact aNt) | (with_reducible apply sd_draw; · kernel_rfl) | (apply Sd.mk; · exact aSd) | ((with_reducible apply Vl.mk (α := Int)); · exact aAr) | ((with_reducible first | apply Vl.mk (α := Bool) | apply Vl.mk (α := Nat) | apply Vl.mk (α := ByteArray) | apply Ge.mk (α := Row) | apply Ge.mk (α := SV) | apply Ge.mk (α := AV)); · exact rfl) | (refine And.intro rfl ?_) | ((with_reducible first | apply Vl.mk (α := List SV) | apply Vl.mk (α := Ef) | apply Vl.mk (α := TV) | apply Ge.mk (α := List SV) | apply Sg.mk | apply Sk.mk); · exact aCl) | ((first | apply Br.mk | apply Gd.mk) <;> (intro hb; first | exact aKl hb | (simp only [d1, d2, beq_iff_eq, bne_iff_ne, d3, d4, d5, d6, Int.not_lt, Int.not_le, ge_iff_le, gt_iff_lt, ne_eq, d7] at hb; first | (exfalso; omega) | skip) | skip)) | (apply Sd.mk; · exact aS2))); (all_goals (try (conv => whnf)))
      all_goals first
        | (exfalso; simp at hb; done)
        | (refine ⟨mm - 1, rvst N (R + 1) (i + 1) fr CV O2, by omega, ?_, i + 1, w2, by omega, hft, by omega, by rw [hO2, hl2]; try rfl⟩
           (apply wk_of (m := [(0, some 0), (1, some _)]); (focus ((repeat' (first | exact tml_nil | apply tml_cons)); all_goals (exact aFi))); (focus ((show HlS _ _ [] _); (exact aFi))); (focus (first | exact rfl | rfl | kernel_rfl))))
        | trace_state
  · obtain rfl : i = N := by omega
    rw [List.take_of_length_le (by omega)] at hw
    obtain rfl : w = W := by rw [← hw, hW]
    rw [hr] at l2 ⊢
    clear hsg hw hW
    generalize bks w = IV at *
    (repeat' ((conv => whnf); first | ((first | apply Br.mk | apply Gd.mk) <;> (intro hb; first | exact aK2 hb | (simp only [d1, d2, beq_iff_eq, bne_iff_ne, d3, d4, d5, d6, Int.not_lt, Int.not_le, ge_iff_le, gt_iff_lt, ne_eq, d7] at hb; first | (exfalso; omega) | skip) | skip))  |  (refine Eqs.mk _ (eqt_ok _ _ rfl _ _ _ rfl) ?_) | ((with_reducible apply Vl.mk (α := Nat)); · exact aNt) | (with_reducible apply sd_draw; · kernel_rfl) | (apply Sd.mk; · exact aSd) | ((with_reducible apply Vl.mk (α := Int)); · exact aAr) | ((with_reducible first | apply Vl.mk (α := Bool) | apply Vl.mk (α := Nat) | apply Vl.mk (α := ByteArray) | apply Ge.mk (α := Row) | apply Ge.mk (α := SV) | apply Ge.mk (α := AV)); · exact rfl) | (refine And.intro rfl ?_) | ((with_reducible first | apply Vl.mk (α := List SV) | apply Vl.mk (α := Ef) | apply Vl.mk (α := TV) | apply Ge.mk (α := List SV) | apply Sg.mk | apply Sk.mk); · exact aCl) | ((first | apply Br.mk | apply Gd.mk) <;> (intro hb; first | exact aKl hb | (simp only [d1, d2, beq_iff_eq, bne_iff_ne, d3, d4, d5, d6, Int.not_lt, Int.not_le, ge_iff_le, gt_iff_lt, ne_eq, d7] at hb; first | (exfalso; omega) | skip) | skip)) | (apply Sd.mk; · exact aS2))); (all_goals (try (conv => whnf)))
    all_goals first | (apply Fin.mk (m := [(0, some 0), (1, some 1)]); (focus exact rfl); (all_goals ((try (show HlS _ _ [] _)); first | (exact aFi) | exact rfl))) | trace_state
def rfst (N i x : Nat) (CC : List SV) : St :=
  ⟨[(0, .a (.s (.sl 0 0 N))), (1, .a (.s (.int .u32 x))), (4, .a (.s (.ptr 1 0))), (7, .a (.s (.int .i64 i)))], [(0, some ⟨false, 3, CC⟩), (1, some ⟨true, 1, [.int .u32 (0 : Nat), .int .i64 0, .nilsl]⟩)], [0]⟩
theorem idxU_first (x : Nat) : ∀ (ks : List Nat) (j i : Nat), idxU x ks j = ((j + i : Nat) : Int) → ∀ k, k < i → ks[k]? ≠ some x
  | [], j, i, h, k, hk => by simp
  | y :: l, j, i, h, k, hk => by
    unfold idxU at h
    split at h
    · omega
    · rename_i hne
      cases k with
      | zero => simp; exact hne
      | succ k =>
        rw [List.getElem?_cons_succ]
        exact idxU_first x l (j + 1) (i - 1) (by rw [h]; congr 1; omega) k (by omega)
set_option maxHeartbeats 2000000 in
set_option maxRecDepth 100000 in
theorem rfind_hit (c : List Bk) (N : Nat) (hN : c.length = N) (hN2 : N ≤ 1000000) (x : Nat) (i : Nat) (b : Bk) (hb : c[i]? = some b) (hbA : b.A = x) (hi : ∀ (k : Nat) (e : Bk), k < i → c[k]? = some e → e.A ≠ x) :
    Fn Try.prog 13 [.s (.sl 0 0 N), .s (.int .u32 x)] [⟨false, 3, bks c⟩] (· = ⟨.tup [.agg b.C, .s (.sl 1 0 N), .s (.bool true)], [], [⟨true, 3, bks (frontL c i b)⟩]⟩) := by
  have s1 := bks_scal c
  have hsg := bks_seg c
  have hlt : i < N := by rw [← hN]; exact (List.getElem?_eq_some_iff.1 hb).1
  generalize hCV : bks c = CV at *
  refine fn_of_vc mixed tys_ok _ _ Try.func13 (by kernel_rfl) rfl Try.ntmps13 (by rw [Try.results13]) rfl ?_; dsimp only [argTm, argHl, Nat.zero_add, Nat.reduceAdd, List.length_nil, List.length_cons]
  (repeat' ((conv => whnf); first | ((first | apply Br.mk | apply Gd.mk) <;> (intro hb; first | exact aK2 hb | (simp only [d1, d2, beq_iff_eq, bne_iff_ne, d3, d4, d5, d6, Int.not_lt, Int.not_le, ge_iff_le, gt_iff_lt, ne_eq, d7] at hb; first | (exfalso; omega) | skip) | skip))  |  (refine Eqs.mk _ (eqt_ok _ _ rfl _ _ _ rfl) ?_) | ((with_reducible apply Vl.mk (α := Nat)); · exact aNt) | (with_reducible apply sd_draw; · kernel_rfl) | (apply Sd.mk; · exact aSd) | ((with_reducible apply Vl.mk (α := Int)); · exact aAr) | ((with_reducible first | apply Vl.mk (α := Bool) | apply Vl.mk (α := Nat) | apply Vl.mk (α := ByteArray) | apply Ge.mk (α := Row) | apply Ge.mk (α := SV) | apply Ge.mk (α := AV)); · exact rfl) | (refine And.intro rfl ?_) | ((with_reducible first | apply Vl.mk (α := List SV) | apply Vl.mk (α := Ef) | apply Vl.mk (α := TV) | apply Ge.mk (α := List SV) | apply Sg.mk | apply Sk.mk); · exact aCl) | ((first | apply Br.mk | apply Gd.mk) <;> (intro hb; first | exact aKl hb | (simp only [d1, d2, beq_iff_eq, bne_iff_ne, d3, d4, d5, d6, Int.not_lt, Int.not_le, ge_iff_le, gt_iff_lt, ne_eq, d7] at hb; first | (exfalso; omega) | skip) | skip)) | (apply Sd.mk; · exact aS2))); (all_goals (try (conv => whnf)))
  refine Lp.inv (fun mm σ => ∃ j : Nat, mm + j = N ∧ j ≤ i ∧ σ = rfst N j x CV) ?_ ?_
  · refine ⟨N, rfst N 0 x CV, ?_, 0, by omega, by omega, rfl⟩
    (apply wk_of (m := [(0, some 0), (1, some _)]); (focus ((repeat' (first | exact tml_nil | apply tml_cons)); all_goals (exact aFi))); (focus ((show HlS _ _ [] _); (exact aFi))); (focus (first | exact rfl | rfl | kernel_rfl)))
  rintro mm σ ⟨j, hmj, hji, rfl⟩
  unfold rfst
  have q2 : IntKind.i64.wrap ((j : Int) + 1) = ((j + 1 : Nat) : Int) := by rw [wi64 (by omega) (by omega)]; omega
  by_cases hj : j < i
  · obtain ⟨e, he⟩ : ∃ e, c[j]? = some e := ⟨c[j]'(by omega), List.getElem?_eq_getElem (by omega)⟩
    have seg := hsg j e he
    have ga := seg.2 0 _ rfl
    have hne := hi j e hj he
    obtain ⟨A, L, l⟩ := e
    dsimp only [Bk.C] at seg ga hne
    have hne' : ¬ ((A : Nat) : Int) = (x : Int) := by omega
    clear hsg he hb hi hbA hne
    generalize l.length = K at *
    generalize mzs l = M at *
    (repeat' ((conv => whnf); first | ((with_reducible apply Ge.mk (α := SV)); · exact ga)  |  ((with_reducible apply Vl.mk (α := Int)); · with_reducible first | exact q2)  |  ((first | apply Br.mk | apply Gd.mk) <;> (intro hb; first | exact aK2 hb | (simp only [d1, d2, beq_iff_eq, bne_iff_ne, d3, d4, d5, d6, Int.not_lt, Int.not_le, ge_iff_le, gt_iff_lt, ne_eq, d7] at hb; first | (exfalso; omega) | skip) | skip))  |  (refine Eqs.mk _ (eqt_ok _ _ rfl _ _ _ rfl) ?_) | ((with_reducible apply Vl.mk (α := Nat)); · exact aNt) | (with_reducible apply sd_draw; · kernel_rfl) | (apply Sd.mk; · exact aSd) | ((with_reducible apply Vl.mk (α := Int)); · exact aAr) | ((with_reducible first | apply Vl.mk (α := Bool) | apply Vl.mk (α := Nat) | apply Vl.mk (α := ByteArray) | apply Ge.mk (α := Row) | apply Ge.mk (α := SV) | apply Ge.mk (α := AV)); · exact rfl) | (refine And.intro rfl ?_) | ((with_reducible first | apply Vl.mk (α := List SV) | apply Vl.mk (α := Ef) | apply Vl.mk (α := TV) | apply Ge.mk (α := List SV) | apply Sg.mk | apply Sk.mk); · exact aCl) | ((first | apply Br.mk | apply Gd.mk) <;> (intro hb; first | exact aKl hb | (simp only [d1, d2, beq_iff_eq, bne_iff_ne, d3, d4, d5, d6, Int.not_lt, Int.not_le, ge_iff_le, gt_iff_lt, ne_eq, d7] at hb; first | (exfalso; omega) | skip) | skip)) | (apply Sd.mk; · exact aS2))); (all_goals (try (conv => whnf)))
    all_goals first
      | (exfalso; simp at hb; done)
      | (refine ⟨mm - 1, rfst N (j + 1) x CV, by omega, ?_, j + 1, by omega, by omega, rfl⟩
         (apply wk_of (m := [(0, some 0), (1, some _)]); (focus ((repeat' (first | exact tml_nil | apply tml_cons)); all_goals (exact aFi))); (focus ((show HlS _ _ [] _); (exact aFi))); (focus (first | exact rfl | rfl | kernel_rfl))))
      | trace_state
  · obtain rfl : j = i := by omega
    have seg := hsg j b hb
    have ga := seg.2 0 _ rfl
    have s2 := bks_scal (frontL c j b)
    have hfr : b.C ++ bks (c.take j) ++ bks (c.drop (j + 1)) = bks (frontL c j b) := by
      unfold frontL; show _ = b.C ++ bks _; rw [bks_app, List.append_assoc]
    have hp1 : (bks (c.take j)).length = j * 3 := by rw [bks_len, List.length_take]; congr 1; omega
    have hp2 : (bks (c.drop (j + 1))).length = (N - (j + 1)) * 3 := by rw [bks_len, List.length_drop, hN]
    have k1 := bks_known (c.take j)
    have k2 := bks_known (c.drop (j + 1))
    have g1 : ∀ (q : Nat) s, (bks (c.take j))[q]? = some s → CV[0 + q]? = some s := fun q s hq => by
      rw [bks_take c j (by omega), hCV, List.getElem?_take] at hq
      split at hq
      · rw [Nat.zero_add]; exact hq
      · cases hq
    have g2 : ∀ (q : Nat) s, (bks (c.drop (j + 1)))[q]? = some s → CV[(j + 1) * 3 + q]? = some s := fun q s hq => by
      rw [bks_drop c (j + 1) (by omega), hCV, List.getElem?_drop] at hq
      exact hq
    have hO1 : (b.C ++ bks (c.take j)).length = (1 + j) * 3 := by rw [List.length_append, hp1]; show 3 + _ = _; omega
    have hNN : 1 + j + (N - (j + 1)) = N := by omega
    clear hsg hb hi
    obtain ⟨A, L, l⟩ := b
    dsimp only [Bk.C] at *
    subst hbA
    generalize l.length = K at *
    generalize mzs l = M at *
    generalize hP1 : bks (c.take j) = P1 at *
    generalize bks (c.drop (j + 1)) = P2 at *
    obtain ⟨O1, hO⟩ : ∃ O1, [SV.int .u32 (A : Nat), .int .i64 L, .fz 6 K M] ++ P1 = O1 := ⟨_, rfl⟩
    rw [hO] at hfr hO1
    generalize bks (frontL c j _) = FV at *
    have sk1 : P1.length = j * ty27.size ∧ allKnown P1 = true ∧ ∀ (q : Nat) s, P1[q]? = some s → CV[0 + q]? = some s := ⟨hp1, k1, g1⟩
    have hT : ((N : Int) - ((j + 1 : Nat) : Int)).toNat = N - (j + 1) := by omega
    have sk2 : P2.length = ((N : Int) - ((j + 1 : Nat) : Int)).toNat * ty27.size ∧ allKnown P2 = true ∧ ∀ (q : Nat) s, P2[q]? = some s → CV[(j + 1) * 3 + q]? = some s := ⟨by rw [hT]; exact hp2, k2, g2⟩
    have hNT : 1 + j + ((N : Int) - ((j + 1 : Nat) : Int)).toNat = N := by omega
    have q3 : IntKind.i64.wrap ((j : Int) + 1) = ((j + 1 : Nat) : Int) := q2
    (repeat' ((conv => whnf); first | ((with_reducible apply Ge.mk (α := SV)); · exact ga)  |  ((with_reducible apply Vl.mk (α := Int)); · with_reducible first | exact q2)  |  (apply Sg.mk; · exact seg)  |  (apply Sk.mk; · first | exact sk1 | exact sk2)  |  ((with_reducible apply Vl.mk (α := List SV)); · first | exact hO | exact hfr)  |  ((with_reducible apply Vl.mk (α := Nat)); · with_reducible exact hNT)  |  ((first | apply Br.mk | apply Gd.mk) <;> (intro hb; first | exact aK2 hb | (simp only [d1, d2, beq_iff_eq, bne_iff_ne, d3, d4, d5, d6, Int.not_lt, Int.not_le, ge_iff_le, gt_iff_lt, ne_eq, d7] at hb; first | (exfalso; omega) | skip) | skip))  |  (refine Eqs.mk _ (eqt_ok _ _ rfl _ _ _ rfl) ?_) | ((with_reducible apply Vl.mk (α := Nat)); · exact aNt) | (with_reducible apply sd_draw; · kernel_rfl) | (apply Sd.mk; · exact aSd) | ((with_reducible apply Vl.mk (α := Int)); · exact aAr) | ((with_reducible first | apply Vl.mk (α := Bool) | apply Vl.mk (α := Nat) | apply Vl.mk (α := ByteArray) | apply Ge.mk (α := Row) | apply Ge.mk (α := SV) | apply Ge.mk (α := AV)); · exact rfl) | (refine And.intro rfl ?_) | ((with_reducible first | apply Vl.mk (α := List SV) | apply Vl.mk (α := Ef) | apply Vl.mk (α := TV) | apply Ge.mk (α := List SV) | apply Sg.mk | apply Sk.mk); · exact aCl) | ((first | apply Br.mk | apply Gd.mk) <;> (intro hb; first | exact aKl hb | (simp only [d1, d2, beq_iff_eq, bne_iff_ne, d3, d4, d5, d6, Int.not_lt, Int.not_le, ge_iff_le, gt_iff_lt, ne_eq, d7] at hb; first | (exfalso; omega) | skip) | skip)) | (apply Sd.mk; · exact aS2))); (all_goals (try (conv => whnf)))
    all_goals first | (apply Fin.mk (m := [(0, some 0), (1, some _)]); (focus exact rfl); (all_goals ((try (show HlS _ _ [] _)); first | (exact aFi) | exact rfl))) | trace_state
set_option maxHeartbeats 2000000 in
set_option maxRecDepth 100000 in
theorem rfind_no (c : List Bk) (N : Nat) (hN : c.length = N) (hN2 : N ≤ 1000000) (x : Nat) (hi : ∀ (k : Nat) (e : Bk), c[k]? = some e → e.A ≠ x) :
    Fn Try.prog 13 [.s (.sl 0 0 N), .s (.int .u32 x)] [⟨false, 3, bks c⟩] (· = ⟨.tup [.agg [.int .u32 (0 : Nat), .int .i64 0, .fz 6 0 []], .s (.sl 1 0 N), .s (.bool false)], [], [⟨true, 3, bks c⟩]⟩) := by
  have s1 := bks_scal c
  have hsg := bks_seg c
  have sk : (bks c).length = N * ty27.size ∧ allKnown (bks c) = true ∧ ∀ (j : Nat) s, (bks c)[j]? = some s → (bks c)[0 + j]? = some s := ⟨by rw [bks_len, hN]; rfl, bks_known c, fun j s hs => by rw [Nat.zero_add]; exact hs⟩
  generalize hCV : bks c = CV at *
  refine fn_of_vc mixed tys_ok _ _ Try.func13 (by kernel_rfl) rfl Try.ntmps13 (by rw [Try.results13]) rfl ?_; dsimp only [argTm, argHl, Nat.zero_add, Nat.reduceAdd, List.length_nil, List.length_cons]
  (repeat' ((conv => whnf); first | ((first | apply Br.mk | apply Gd.mk) <;> (intro hb; first | exact aK2 hb | (simp only [d1, d2, beq_iff_eq, bne_iff_ne, d3, d4, d5, d6, Int.not_lt, Int.not_le, ge_iff_le, gt_iff_lt, ne_eq, d7] at hb; first | (exfalso; omega) | skip) | skip))  |  (refine Eqs.mk _ (eqt_ok _ _ rfl _ _ _ rfl) ?_) | ((with_reducible apply Vl.mk (α := Nat)); · exact aNt) | (with_reducible apply sd_draw; · kernel_rfl) | (apply Sd.mk; · exact aSd) | ((with_reducible apply Vl.mk (α := Int)); · exact aAr) | ((with_reducible first | apply Vl.mk (α := Bool) | apply Vl.mk (α := Nat) | apply Vl.mk (α := ByteArray) | apply Ge.mk (α := Row) | apply Ge.mk (α := SV) | apply Ge.mk (α := AV)); · exact rfl) | (refine And.intro rfl ?_) | ((with_reducible first | apply Vl.mk (α := List SV) | apply Vl.mk (α := Ef) | apply Vl.mk (α := TV) | apply Ge.mk (α := List SV) | apply Sg.mk | apply Sk.mk); · exact aCl) | ((first | apply Br.mk | apply Gd.mk) <;> (intro hb; first | exact aKl hb | (simp only [d1, d2, beq_iff_eq, bne_iff_ne, d3, d4, d5, d6, Int.not_lt, Int.not_le, ge_iff_le, gt_iff_lt, ne_eq, d7] at hb; first | (exfalso; omega) | skip) | skip)) | (apply Sd.mk; · exact aS2))); (all_goals (try (conv => whnf)))
  refine Lp.inv (fun mm σ => ∃ j : Nat, mm + j = N ∧ j ≤ N ∧ σ = rfst N j x CV) ?_ ?_
  · refine ⟨N, rfst N 0 x CV, ?_, 0, by omega, by omega, rfl⟩
    (apply wk_of (m := [(0, some 0), (1, some _)]); (focus ((repeat' (first | exact tml_nil | apply tml_cons)); all_goals (exact aFi))); (focus ((show HlS _ _ [] _); (exact aFi))); (focus (first | exact rfl | rfl | kernel_rfl)))
  rintro mm σ ⟨j, hmj, hji, rfl⟩
  unfold rfst
  have q2 : IntKind.i64.wrap ((j : Int) + 1) = ((j + 1 : Nat) : Int) := by rw [wi64 (by omega) (by omega)]; omega
  by_cases hj : j < N
  · obtain ⟨e, he⟩ : ∃ e, c[j]? = some e := ⟨c[j]'(by omega), List.getElem?_eq_getElem (by omega)⟩
    have seg := hsg j e he
    have ga := seg.2 0 _ rfl
    have hne := hi j e he
    obtain ⟨A, L, l⟩ := e
    dsimp only [Bk.C] at seg ga hne
    have hne' : ¬ ((A : Nat) : Int) = (x : Int) := by omega
    clear hsg he hi hne sk
    generalize l.length = K at *
    generalize mzs l = M at *
    (repeat' ((conv => whnf); first | ((with_reducible apply Ge.mk (α := SV)); · exact ga)  |  ((with_reducible apply Vl.mk (α := Int)); · with_reducible first | exact q2)  |  ((first | apply Br.mk | apply Gd.mk) <;> (intro hb; first | exact aK2 hb | (simp only [d1, d2, beq_iff_eq, bne_iff_ne, d3, d4, d5, d6, Int.not_lt, Int.not_le, ge_iff_le, gt_iff_lt, ne_eq, d7] at hb; first | (exfalso; omega) | skip) | skip))  |  (refine Eqs.mk _ (eqt_ok _ _ rfl _ _ _ rfl) ?_) | ((with_reducible apply Vl.mk (α := Nat)); · exact aNt) | (with_reducible apply sd_draw; · kernel_rfl) | (apply Sd.mk; · exact aSd) | ((with_reducible apply Vl.mk (α := Int)); · exact aAr) | ((with_reducible first | apply Vl.mk (α := Bool) | apply Vl.mk (α := Nat) | apply Vl.mk (α := ByteArray) | apply Ge.mk (α := Row) | apply Ge.mk (α := SV) | apply Ge.mk (α := AV)); · exact rfl) | (refine And.intro rfl ?_) | ((with_reducible first | apply Vl.mk (α := List SV) | apply Vl.mk (α := Ef) | apply Vl.mk (α := TV) | apply Ge.mk (α := List SV) | apply Sg.mk | apply Sk.mk); · exact aCl) | ((first | apply Br.mk | apply Gd.mk) <;> (intro hb; first | exact aKl hb | (simp only [d1, d2, beq_iff_eq, bne_iff_ne, d3, d4, d5, d6, Int.not_lt, Int.not_le, ge_iff_le, gt_iff_lt, ne_eq, d7] at hb; first | (exfalso; omega) | skip) | skip)) | (apply Sd.mk; · exact aS2))); (all_goals (try (conv => whnf)))
    all_goals first
      | (exfalso; simp at hb; done)
      | (refine ⟨mm - 1, rfst N (j + 1) x CV, by omega, ?_, j + 1, by omega, by omega, rfl⟩
         (apply wk_of (m := [(0, some 0), (1, some _)]); (focus ((repeat' (first | exact tml_nil | apply tml_cons)); all_goals (exact aFi))); (focus ((show HlS _ _ [] _); (exact aFi))); (focus (first | exact rfl | rfl | kernel_rfl))))
      | trace_state
  · obtain rfl : j = N := by omega
    clear hsg hi
    (repeat' ((conv => whnf); first | (refine Zs.mk [] ⟨rfl, fun k s h => by simp at h⟩ ?_)  |  (apply Sk.mk; · exact sk)  |  (apply Sd.mk; · first | omega | (refine ⟨rfl, rfl, rfl, ?_, ?_⟩ <;> first | omega | (show (0 + j) * 40 ≤ _; omega) | (show (0 + j) * 48 ≤ _; omega)))  |  ((with_reducible apply Vl.mk (α := Nat)); · exact Nat.zero_add j)  |  ((with_reducible apply Vl.mk (α := List SV)); · exact List.nil_append CV)  |  ((first | apply Br.mk | apply Gd.mk) <;> (intro hb; first | exact aK2 hb | (simp only [d1, d2, beq_iff_eq, bne_iff_ne, d3, d4, d5, d6, Int.not_lt, Int.not_le, ge_iff_le, gt_iff_lt, ne_eq, d7] at hb; first | (exfalso; omega) | skip) | skip))  |  (refine Eqs.mk _ (eqt_ok _ _ rfl _ _ _ rfl) ?_) | ((with_reducible apply Vl.mk (α := Nat)); · exact aNt) | (with_reducible apply sd_draw; · kernel_rfl) | (apply Sd.mk; · exact aSd) | ((with_reducible apply Vl.mk (α := Int)); · exact aAr) | ((with_reducible first | apply Vl.mk (α := Bool) | apply Vl.mk (α := Nat) | apply Vl.mk (α := ByteArray) | apply Ge.mk (α := Row) | apply Ge.mk (α := SV) | apply Ge.mk (α := AV)); · exact rfl) | (refine And.intro rfl ?_) | ((with_reducible first | apply Vl.mk (α := List SV) | apply Vl.mk (α := Ef) | apply Vl.mk (α := TV) | apply Ge.mk (α := List SV) | apply Sg.mk | apply Sk.mk); · exact aCl) | ((first | apply Br.mk | apply Gd.mk) <;> (intro hb; first | exact aKl hb | (simp only [d1, d2, beq_iff_eq, bne_iff_ne, d3, d4, d5, d6, Int.not_lt, Int.not_le, ge_iff_le, gt_iff_lt, ne_eq, d7] at hb; first | (exfalso; omega) | skip) | skip)) | (apply Sd.mk; · exact aS2))); (all_goals (try (conv => whnf)))
    all_goals first
      | (refine Fin.mk ⟨.tup [.agg [.int .u32 (0 : Nat), .int .i64 0, .fz 6 0 []], .s (.sl 1 0 j), .s (.bool false)], [], [⟨true, 3, CV⟩]⟩ [(0, some 0), (1, some 131264)] rfl (tvm_tup (avsm_cons (avm_agg (.cons (svm_same rfl) (.cons (svm_same rfl) (.cons svm_fznil .nil)))) (avsm_cons (avm_s (svm_sl rfl)) (avsm_cons (avm_s (svm_same rfl)) avsm_nil)))) ?_ rfl
         show HlS _ _ [] _
         exact aFi)
      | trace_state
end Go.Proofs.Ytcaddlighhiepaa
