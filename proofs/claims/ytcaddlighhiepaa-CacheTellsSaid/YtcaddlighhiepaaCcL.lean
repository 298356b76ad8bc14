/- Caches: without for frames, Invalidate. Printed by mkccl.py. -/
import Derived.Test.YtcaddlighhiepaaCcJ
namespace Go.Proofs.Ytcaddlighhiepaa
open Go Go.RowKit
set_option linter.unusedSimpArgs false
set_option linter.unusedVariables false

def fk (b : Bk) : Int := ((b.A / 128 : Nat) : Int)
def woit (n r : Nat) (x : Int) (i : Nat) (K0 V0 KW VV : List SV) : St :=
  ⟨[(0, .a (.s (.ptr 0 0))), (1, .a (.s (.int .i64 x))), (4, .a (.s (.ptr 3 0))), (5, .a (.s (.ptr 4 0))), (11, .a (.s (.sl 1 0 n))), (12, .a (.s (.int .i64 n))), (13, .a (.s (.int .i64 i)))],
   [(0, some ⟨false, 1, [.sl 1 0 n, .sl 2 0 n]⟩), (1, some ⟨false, 1, K0⟩), (2, some ⟨false, 3, V0⟩), (3, some ⟨true, 1, [.nilsl, .nilsl]⟩), (4, some ⟨true, 1, [.sl 5 0 r, .sl 6 0 r]⟩), (5, some ⟨true, 1, KW⟩), (6, some ⟨true, 3, VV⟩)], [0]⟩
set_option maxHeartbeats 2000000 in
set_option maxRecDepth 100000 in
theorem withoutI_fn (vs : List Bk) (n : Nat) (hv : vs.length = n) (hn : n ≤ 1000000) (x : Int) (W : List Bk) (hW : vs.filter (fun b => decide (fk b ≠ x)) = W) (r : Nat) (hr : W.length = r) :
    Fn Try.prog 41 [.s (.ptr 0 0), .s (.int .i64 x)] [⟨false, 1, [.sl 1 0 n, .sl 2 0 n]⟩, ⟨false, 1, isv .i64 (vs.map fk)⟩, ⟨false, 3, bks vs⟩]
      (· = ⟨.a (.agg [.sl 3 0 r, .sl 4 0 r]), [], [⟨true, 1, isv .i64 (W.map fk)⟩, ⟨true, 3, bks W⟩]⟩) := by
  have hs1 := isv_scal .i64 (vs.map fk)
  have hs2 := bks_scal vs
  have hsg := bks_seg vs
  have hg := fun i (h : i < n) => isv_get .i64 (vs.map fk) i (by simp; omega)
  generalize hK0 : isv .i64 (vs.map fk) = K0 at *
  generalize hV0 : bks vs = V0 at *
  refine fn_of_vc mixed tys_ok _ _ Try.func41 (by kernel_rfl) rfl Try.ntmps41 (by rw [Try.results41]) rfl ?_; dsimp only [argTm, argHl, Nat.zero_add, Nat.reduceAdd, List.length_nil, List.length_cons]
  (repeat' ((conv => whnf); first | (with_reducible apply sd_draw; · kernel_rfl) | (apply Sd.mk; · exact aSd) | ((with_reducible apply Vl.mk (α := Int)); · exact aAr) | ((with_reducible first | apply Vl.mk (α := Bool) | apply Vl.mk (α := Nat) | apply Vl.mk (α := ByteArray) | apply Ge.mk (α := Row) | apply Ge.mk (α := SV) | apply Ge.mk (α := AV)); · exact rfl) | (refine And.intro rfl ?_) | ((with_reducible first | apply Vl.mk (α := List SV) | apply Vl.mk (α := Ef) | apply Vl.mk (α := TV) | apply Ge.mk (α := List SV) | apply Sg.mk | apply Sk.mk); · exact aCl) | ((first | apply Br.mk | apply Gd.mk) <;> (intro hb; first | exact aKl hb | (simp only [d1, d2, beq_iff_eq, bne_iff_ne, d3, d4, d5, d6, Int.not_lt, Int.not_le, ge_iff_le, gt_iff_lt, ne_eq, d7] at hb; first | (exfalso; omega) | skip) | skip)))); (all_goals (try (conv => whnf)))
  refine Lp.inv (fun mm σ => ∃ (i : Nat) (w : List Bk), mm + i = n ∧ (vs.take i).filter (fun b => decide (fk b ≠ x)) = w ∧ w.length ≤ i ∧ σ = woit n w.length x i K0 V0 (isv .i64 (w.map fk)) (bks w)) ?_ ?_
  · refine ⟨n, woit n 0 x 0 K0 V0 [] [], ?_, 0, [], by omega, rfl, Nat.le_refl _, rfl⟩
    (apply wk_of (m := [(0, some 0), (1, some 1), (2, some 2), (3, some _), (4, some _), (5, none), (6, none)]); (focus ((repeat' (first | exact tml_nil | apply tml_cons)); all_goals (exact aFi))); (focus ((show HlS _ _ [] _); (exact aFi))); (focus (first | exact rfl | rfl | kernel_rfl)))
  rintro mm σ ⟨i, w, hmi, hw, hwl, rfl⟩
  unfold woit
  have h1 := isv_scal .i64 (w.map fk)
  have h2 := bks_scal w
  by_cases hi : i < n
  · obtain ⟨b, hb⟩ : ∃ b, vs[i]? = some b := ⟨vs[i]'(by omega), List.getElem?_eq_getElem (by omega)⟩
    have seg := hsg i b hb
    have g0 := hg i hi
    rw [show (vs.map fk).getD i 0 = fk b by rw [List.getD_eq_getElem?_getD, List.getElem?_map, hb]; rfl] at g0
    have hft := filter_take (fun b => decide (fk b ≠ x)) vs i b hb
    rw [hw] at hft
    have q2 : IntKind.i64.wrap ((i : Int) + 1) = ((i + 1 : Nat) : Int) := by rw [wi64 (by omega) (by omega)]; omega
    have x1 : 0 + ((i : Nat) : Int).toNat * ty3.size = i := by show 0 + ((i : Nat) : Int).toNat * 1 = _; omega
    have x3 : 0 + ((i : Nat) : Int).toNat * ty27.size = i * 3 := by show 0 + ((i : Nat) : Int).toNat * 3 = _; omega
    by_cases hc : fk b = x
    · rw [if_neg (by rw [decide_eq_true_eq]; exact fun h => h hc)] at hft
      have hci : fk b = x := hc
      generalize fk b = A at *
      clear hsg hg seg hb
      generalize hK1 : isv .i64 (w.map fk) = K1 at *
      generalize hV1 : bks w = V1 at *
      (repeat' ((conv => whnf); first | ((first | apply Br.mk | apply Gd.mk) <;> (intro hb; first | exact aK2 hb | (simp only [d1, d2, beq_iff_eq, bne_iff_ne, d3, d4, d5, d6, Int.not_lt, Int.not_le, ge_iff_le, gt_iff_lt, ne_eq, d7] at hb; first | (exfalso; omega) | skip) | skip))  |  (refine Eqs.mk _ (eqt_ok _ _ rfl _ _ _ rfl) ?_)  |  ((with_reducible apply Vl.mk (α := Int)); · with_reducible first | exact q2)  |  ((with_reducible apply Vl.mk (α := Nat)); · first | exact x1 | exact x3)  |  (apply Sd.mk; · first | omega | (show (0 : Int) ≤ _ ∧ _ < _; omega))  |  ((with_reducible apply Ge.mk (α := SV)); · exact g0) | ((with_reducible apply Vl.mk (α := Nat)); · exact aNt) | (with_reducible apply sd_draw; · kernel_rfl) | (apply Sd.mk; · exact aSd) | ((with_reducible apply Vl.mk (α := Int)); · exact aAr) | ((with_reducible first | apply Vl.mk (α := Bool) | apply Vl.mk (α := Nat) | apply Vl.mk (α := ByteArray) | apply Ge.mk (α := Row) | apply Ge.mk (α := SV) | apply Ge.mk (α := AV)); · exact rfl) | (refine And.intro rfl ?_) | ((with_reducible first | apply Vl.mk (α := List SV) | apply Vl.mk (α := Ef) | apply Vl.mk (α := TV) | apply Ge.mk (α := List SV) | apply Sg.mk | apply Sk.mk); · exact aCl) | ((first | apply Br.mk | apply Gd.mk) <;> (intro hb; first | exact aKl hb | (simp only [d1, d2, beq_iff_eq, bne_iff_ne, d3, d4, d5, d6, Int.not_lt, Int.not_le, ge_iff_le, gt_iff_lt, ne_eq, d7] at hb; first | (exfalso; omega) | skip) | skip)) | (apply Sd.mk; · exact aS2))); (all_goals (try (conv => whnf)))
      all_goals first
        | (refine ⟨mm - 1, woit n w.length x (i + 1) K0 V0 K1 V1, by omega, ?_, i + 1, w, by omega, hft, by omega, by rw [hK1, hV1]; try rfl⟩
           (apply wk_of (m := [(0, some 0), (1, some 1), (2, some 2), (3, some 3), (4, some 4), (5, some 5), (6, some 6)]); (focus ((repeat' (first | exact tml_nil | apply tml_cons)); all_goals (exact aFi))); (focus ((show HlS _ _ [] _); (exact aFi))); (focus (first | exact rfl | rfl | kernel_rfl))))
        | trace_state
    · rw [if_pos (by rw [decide_eq_true_eq]; exact hc)] at hft
      have hci : ¬ fk b = x := hc
      have ca := addI_fn (w.map fk) w w.length (by simp) rfl (by omega) (fk b) b
      rw [show w.map fk ++ [fk b] = (w ++ [b]).map fk by rw [List.map_append]; rfl] at ca
      have h3 := isv_scal .i64 ((w ++ [b]).map fk)
      have h4 := bks_scal (w ++ [b])
      have hl2 : (w ++ [b]).length = w.length + 1 := by simp
      clear hsg hg hb
      obtain ⟨kf, hkf⟩ : ∃ kf, fk b = kf := ⟨_, rfl⟩
      rw [hkf] at ca hci g0
      clear hc
      obtain ⟨A, L, l⟩ := b
      dsimp only [Bk.C] at ca seg
      generalize hw2 : w ++ [(⟨A, L, l⟩ : Bk)] = w2 at *
      generalize hK2 : isv .i64 (w2.map fk) = K2 at *
      generalize hV2 : bks w2 = V2 at *
      generalize isv .i64 (w.map fk) = K1 at *
      generalize bks w = V1 at *
      generalize w.length = R at *
      generalize l.length = NL at *
      generalize mzs l = M at *
      (repeat' ((conv => whnf); first | ((first | apply Br.mk | apply Gd.mk) <;> (intro hb; first | exact aK2 hb | (simp only [d1, d2, beq_iff_eq, bne_iff_ne, d3, d4, d5, d6, Int.not_lt, Int.not_le, ge_iff_le, gt_iff_lt, ne_eq, d7] at hb; first | (exfalso; omega) | skip) | skip))  |  (refine Eqs.mk _ (eqt_ok _ _ rfl _ _ _ rfl) ?_)  |  ((with_reducible apply Vl.mk (α := Int)); · with_reducible first | exact q2)  |  ((with_reducible apply Vl.mk (α := Nat)); · first | exact x1 | exact x3)  |  (apply Sd.mk; · first | omega | (show (0 : Int) ≤ _ ∧ _ < _; omega))  |  ((with_reducible apply Ge.mk (α := SV)); · exact g0)  |  (apply Sg.mk; · exact seg)  |  (refine vcall_det ca [⟨4, 0⟩, ⟨5, 0⟩, ⟨6, 0⟩] [(4, ⟨true, 1, [.sl 5 0 R, .sl 6 0 R]⟩), (5, ⟨true, 1, K1⟩), (6, ⟨true, 3, V1⟩)] rfl ⟨rfl, rfl, rfl, trivial⟩ ⟨rfl, rowM_ren rfl rfl, rfl, rowM_hand (by assumption) rfl, rfl, rowM_hand (by assumption) rfl, trivial⟩ ⟨rfl, up_ok rfl⟩ ?_) | ((with_reducible apply Vl.mk (α := Nat)); · exact aNt) | (with_reducible apply sd_draw; · kernel_rfl) | (apply Sd.mk; · exact aSd) | ((with_reducible apply Vl.mk (α := Int)); · exact aAr) | ((with_reducible first | apply Vl.mk (α := Bool) | apply Vl.mk (α := Nat) | apply Vl.mk (α := ByteArray) | apply Ge.mk (α := Row) | apply Ge.mk (α := SV) | apply Ge.mk (α := AV)); · exact rfl) | (refine And.intro rfl ?_) | ((with_reducible first | apply Vl.mk (α := List SV) | apply Vl.mk (α := Ef) | apply Vl.mk (α := TV) | apply Ge.mk (α := List SV) | apply Sg.mk | apply Sk.mk); · exact aCl) | ((first | apply Br.mk | apply Gd.mk) <;> (intro hb; first | exact aKl hb | (simp only [d1, d2, beq_iff_eq, bne_iff_ne, d3, d4, d5, d6, Int.not_lt, Int.not_le, ge_iff_le, gt_iff_lt, ne_eq, d7] at hb; first | (exfalso; omega) | skip) | skip)) | (apply Sd.mk; · exact aS2))); (all_goals (try (conv => whnf)))
      all_goals first
        | (refine ⟨mm - 1, woit n (R + 1) x (i + 1) K0 V0 K2 V2, by omega, ?_, i + 1, w2, by omega, hft, by omega, by rw [hK2, hV2, hl2]; rfl⟩
           (apply wk_of (m := [(0, some 0), (1, some 1), (2, some 2), (3, some 3), (4, some 4), (5, some 262656), (6, some 262657)]); (focus ((repeat' (first | exact tml_nil | apply tml_cons)); all_goals (exact aFi))); (focus ((show HlS _ _ [] _); (exact aFi))); (focus (first | exact rfl | rfl | kernel_rfl))))
        | trace_state
  · rw [List.take_of_length_le (by omega), hW] at hw
    subst hw
    subst hr
    generalize isv .i64 (W.map fk) = K1 at *
    generalize bks W = V1 at *
    (repeat' ((conv => whnf); first | (with_reducible apply sd_draw; · kernel_rfl) | (apply Sd.mk; · exact aSd) | ((with_reducible apply Vl.mk (α := Int)); · exact aAr) | ((with_reducible first | apply Vl.mk (α := Bool) | apply Vl.mk (α := Nat) | apply Vl.mk (α := ByteArray) | apply Ge.mk (α := Row) | apply Ge.mk (α := SV) | apply Ge.mk (α := AV)); · exact rfl) | (refine And.intro rfl ?_) | ((with_reducible first | apply Vl.mk (α := List SV) | apply Vl.mk (α := Ef) | apply Vl.mk (α := TV) | apply Ge.mk (α := List SV) | apply Sg.mk | apply Sk.mk); · exact aCl) | ((first | apply Br.mk | apply Gd.mk) <;> (intro hb; first | exact aKl hb | (simp only [d1, d2, beq_iff_eq, bne_iff_ne, d3, d4, d5, d6, Int.not_lt, Int.not_le, ge_iff_le, gt_iff_lt, ne_eq, d7] at hb; first | (exfalso; omega) | skip) | skip)))); (all_goals (try (conv => whnf)))
    all_goals first | (apply Fin.mk (m := [(0, some 0), (1, some 1), (2, some 2), (3, some 5), (4, some 6)]); (focus exact rfl); (all_goals ((try (show HlS _ _ [] _)); first | (exact aFi) | exact rfl))) | trace_state

theorem frameF_fn (A : Nat) (hA : A < 4294967296) (L : Int) (l : List Mz) (N : Nat) : Fn Try.prog 40 [.agg [.int .u32 A, .int .i64 L, .fz 6 N (mzs l)]] [] (· = ⟨.a (.s (.int .i64 ((A / 128 : Nat) : Int))), [], []⟩) := by
  refine fn_thaw (H := []) (es := 6) (n := N) (cells := mzs l) (R' := ⟨.a (.s (.int .i64 ((A / 128 : Nat) : Int))), [], []⟩) [] (frame_fn A hA L N (mzs l) (mzs_scal l)) (fun ρ vs h => hole_a (pre := []) (post := []) (l1 := [.int .u32 A, .int .i64 L]) (l2 := []) ρ vs h) ?_ ?_ rfl
  · exact tvm_a (avm_s (svm_same rfl))
  · exact hls_nil
def ivst (N i : Nat) (fr : Int) (CC KW VV : List SV) : St :=
  ⟨[(1, .a (.s (.int .i64 fr))), (5, .a (.s (.ptr 1 0))), (8, .a (.s (.sl 0 0 N))), (9, .a (.s (.int .i64 N))), (10, .a (.s (.int .i64 i)))],
   [(0, some ⟨false, 3, CC⟩), (1, some ⟨true, 1, [.sl 2 0 i, .sl 3 0 i]⟩), (2, some ⟨true, 1, KW⟩), (3, some ⟨true, 3, VV⟩)], [0]⟩
set_option maxHeartbeats 2000000 in
set_option maxRecDepth 100000 in
theorem invalidate_fn (c : List Bk) (N : Nat) (hN : c.length = N) (hN2 : N ≤ 1000000) (hok : ∀ b ∈ c, b.ok) (fr : Int) (W : List Bk) (hW : c.filter (fun b => decide (fk b ≠ fr)) = W) (r : Nat) (hr : W.length = r) :
    Fn Try.prog 18 [.s (.sl 0 0 N), .s (.int .i64 fr)] [⟨false, 3, bks c⟩] (· = ⟨.a (.s (.sl 1 0 r)), [], [⟨true, 3, bks W⟩]⟩) := by
  have hs := bks_scal c
  have hsg := bks_seg c
  have cw := withoutI_fn c N hN hN2 fr W hW r hr
  have hw1 := isv_scal .i64 (W.map fk)
  have hw2 := bks_scal W
  generalize isv .i64 (W.map fk) = WK at *
  generalize bks W = WV at *
  generalize hCC : bks c = CC at *
  refine fn_of_vc mixed tys_ok _ _ Try.func18 (by kernel_rfl) rfl Try.ntmps18 (by rw [Try.results18]) rfl ?_; dsimp only [argTm, argHl, Nat.zero_add, Nat.reduceAdd, List.length_nil, List.length_cons]
  (repeat' ((conv => whnf); first | (with_reducible apply sd_draw; · kernel_rfl) | (apply Sd.mk; · exact aSd) | ((with_reducible apply Vl.mk (α := Int)); · exact aAr) | ((with_reducible first | apply Vl.mk (α := Bool) | apply Vl.mk (α := Nat) | apply Vl.mk (α := ByteArray) | apply Ge.mk (α := Row) | apply Ge.mk (α := SV) | apply Ge.mk (α := AV)); · exact rfl) | (refine And.intro rfl ?_) | ((with_reducible first | apply Vl.mk (α := List SV) | apply Vl.mk (α := Ef) | apply Vl.mk (α := TV) | apply Ge.mk (α := List SV) | apply Sg.mk | apply Sk.mk); · exact aCl) | ((first | apply Br.mk | apply Gd.mk) <;> (intro hb; first | exact aKl hb | (simp only [d1, d2, beq_iff_eq, bne_iff_ne, d3, d4, d5, d6, Int.not_lt, Int.not_le, ge_iff_le, gt_iff_lt, ne_eq, d7] at hb; first | (exfalso; omega) | skip) | skip)))); (all_goals (try (conv => whnf)))
  refine Lp.inv (fun mm σ => ∃ i : Nat, mm + i = N ∧ σ = ivst N i fr CC (isv .i64 ((c.take i).map fk)) (bks (c.take i))) ?_ ?_
  · refine ⟨N, ivst N 0 fr CC [] [], ?_, 0, by omega, rfl⟩
    (apply wk_of (m := [(0, some 0), (1, some _), (2, none), (3, none)]); (focus ((repeat' (first | exact tml_nil | apply tml_cons)); all_goals (exact aFi))); (focus ((show HlS _ _ [] _); (exact aFi))); (focus (first | exact rfl | rfl | kernel_rfl)))
  rintro mm σ ⟨i, hmi, rfl⟩
  unfold ivst
  have h1 := isv_scal .i64 ((c.take i).map fk)
  have h2 := bks_scal (c.take i)
  by_cases hi : i < N
  · obtain ⟨b, hb⟩ : ∃ b, c[i]? = some b := ⟨c[i]'(by omega), List.getElem?_eq_getElem (by omega)⟩
    have seg := hsg i b hb
    obtain ⟨hA, hl, hk⟩ := hok b (List.mem_of_getElem? hb)
    have ca := addI_fn ((c.take i).map fk) (c.take i) i (by simp; omega) (by simp; omega) (by omega) (fk b) b
    rw [show (c.take i).map fk ++ [fk b] = (c.take (i + 1)).map fk by rw [← take_app c i b hb, List.map_append]; rfl, take_app c i b hb] at ca
    have h3 := isv_scal .i64 ((c.take (i + 1)).map fk)
    have h4 := bks_scal (c.take (i + 1))
    have q2 : IntKind.i64.wrap ((i : Int) + 1) = ((i + 1 : Nat) : Int) := by rw [wi64 (by omega) (by omega)]; omega
    have cf := frameF_fn b.A hA b.L b.l b.l.length
    change Fn _ _ _ _ (· = ⟨.a (.s (.int .i64 (fk b))), [], []⟩) at cf
    generalize fk b = kf at *
    obtain ⟨A, L, l⟩ := b
    dsimp only [Bk.C] at ca seg cf
    have cl := clone_fn A L l _ rfl hl
    clear hk hb hsg cw
    generalize hK2 : isv .i64 ((c.take (i + 1)).map fk) = K2 at *
    generalize hV2 : bks (c.take (i + 1)) = V2 at *
    generalize isv .i64 ((c.take i).map fk) = K1 at *
    generalize bks (c.take i) = V1 at *
    generalize l.length = NL at *
    generalize mzs l = M at *
    (repeat' ((conv => whnf); first | ((with_reducible apply Vl.mk (α := Int)); · with_reducible first | exact q2)  |  (apply Sd.mk; · first | omega | (show (0 : Int) ≤ _ ∧ _ < _; omega))  |  (apply Sg.mk; · exact seg)  |  (refine vcall_pure (cl) rfl ?_)  |  (refine vcall_pure (cf) rfl ?_)  |  (refine vcall_det ca [⟨1, 0⟩, ⟨2, 0⟩, ⟨3, 0⟩] [(1, ⟨true, 1, [.sl 2 0 i, .sl 3 0 i]⟩), (2, ⟨true, 1, K1⟩), (3, ⟨true, 3, V1⟩)] rfl ⟨rfl, rfl, rfl, trivial⟩ ⟨rfl, rowM_ren rfl rfl, rfl, rowM_hand (by assumption) rfl, rfl, rowM_hand (by assumption) rfl, trivial⟩ ⟨rfl, up_ok rfl⟩ ?_) | ((with_reducible apply Vl.mk (α := Nat)); · exact aNt) | (with_reducible apply sd_draw; · kernel_rfl) | (apply Sd.mk; · exact aSd) | ((with_reducible apply Vl.mk (α := Int)); · exact aAr) | ((with_reducible first | apply Vl.mk (α := Bool) | apply Vl.mk (α := Nat) | apply Vl.mk (α := ByteArray) | apply Ge.mk (α := Row) | apply Ge.mk (α := SV) | apply Ge.mk (α := AV)); · exact rfl) | (refine And.intro rfl ?_) | ((with_reducible first | apply Vl.mk (α := List SV) | apply Vl.mk (α := Ef) | apply Vl.mk (α := TV) | apply Ge.mk (α := List SV) | apply Sg.mk | apply Sk.mk); · exact aCl) | ((first | apply Br.mk | apply Gd.mk) <;> (intro hb; first | exact aKl hb | (simp only [d1, d2, beq_iff_eq, bne_iff_ne, d3, d4, d5, d6, Int.not_lt, Int.not_le, ge_iff_le, gt_iff_lt, ne_eq, d7] at hb; first | (exfalso; omega) | skip) | skip)) | (apply Sd.mk; · exact aS2))); (all_goals (try (conv => whnf)))
    all_goals first
      | (refine ⟨mm - 1, ivst N (i + 1) fr CC K2 V2, by omega, ?_, i + 1, by omega, by rw [hK2, hV2]; rfl⟩
         (apply wk_of (m := [(0, some 0), (1, some 1), (2, some 196864), (3, some 196865)]); (focus ((repeat' (first | exact tml_nil | apply tml_cons)); all_goals (exact aFi))); (focus ((show HlS _ _ [] _); (exact aFi))); (focus (first | exact rfl | rfl | kernel_rfl))))
      | trace_state
  · obtain rfl : i = N := by omega
    rw [List.take_of_length_le (by omega)] at h1 h2 ⊢
    rw [hCC] at h2 ⊢
    generalize isv .i64 (c.map fk) = K1 at *
    (repeat' ((conv => whnf); first | (refine vcall_det cw [⟨1, 0⟩, ⟨2, 0⟩, ⟨3, 0⟩] [(1, ⟨true, 1, [.sl 2 0 i, .sl 3 0 i]⟩), (2, ⟨true, 1, K1⟩), (3, ⟨true, 3, CC⟩)] rfl ⟨rfl, rfl, rfl, trivial⟩ ⟨rfl, rowM_rn0 rfl, rfl, rowM_ro (by assumption), rfl, rowM_ro (by assumption), trivial⟩ ⟨rfl, noUp⟩ ?_) | ((with_reducible apply Vl.mk (α := Nat)); · exact aNt) | (with_reducible apply sd_draw; · kernel_rfl) | (apply Sd.mk; · exact aSd) | ((with_reducible apply Vl.mk (α := Int)); · exact aAr) | ((with_reducible first | apply Vl.mk (α := Bool) | apply Vl.mk (α := Nat) | apply Vl.mk (α := ByteArray) | apply Ge.mk (α := Row) | apply Ge.mk (α := SV) | apply Ge.mk (α := AV)); · exact rfl) | (refine And.intro rfl ?_) | ((with_reducible first | apply Vl.mk (α := List SV) | apply Vl.mk (α := Ef) | apply Vl.mk (α := TV) | apply Ge.mk (α := List SV) | apply Sg.mk | apply Sk.mk); · exact aCl) | ((first | apply Br.mk | apply Gd.mk) <;> (intro hb; first | exact aKl hb | (simp only [d1, d2, beq_iff_eq, bne_iff_ne, d3, d4, d5, d6, Int.not_lt, Int.not_le, ge_iff_le, gt_iff_lt, ne_eq, d7] at hb; first | (exfalso; omega) | skip) | skip)) | (apply Sd.mk; · exact aS2))); (all_goals (try (conv => whnf)))
    all_goals first | (apply Fin.mk (m := [(0, some 0), (1, some _)]); (focus exact rfl); (all_goals ((try (show HlS _ _ [] _)); first | (exact aFi) | exact rfl))) | trace_state
end Go.Proofs.Ytcaddlighhiepaa
