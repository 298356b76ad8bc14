/- CacheTells: the law. -/
import Derived.Test.YtcaddlighhiepaaCcS
namespace Go.Proofs.Ytcaddlighhiepaa
open Go Go.RowKit
set_option linter.unusedSimpArgs false
set_option linter.unusedVariables false

set_option maxHeartbeats 8000000 in
set_option maxRecDepth 100000 in
theorem tellsM_fn (c : List Bk) (N : Nat) (hN : c.length = N) (hN2 : N ≤ 9223372036854775807) (ls acs : List Int) (n p : Nat) (hn : ls.length = n) (hn2 : n ≤ 9223372036854775807) (hp : acs.length = p) (x : Nat) (hx : x < 4294967296) (b : Bk) (hbl : b.l.length ≤ 9223372036854775807) (fr : Int) :
    Fn Try.prog 3 [.s (.sl 0 0 N), .s (.bool false), .s (.sl 1 0 n), .s (.sl 2 0 p), .s (.int .u32 x), .agg b.C, .s (.int .i64 fr)] [⟨false, 3, bks c⟩, ⟨false, 1, isv .i64 ls⟩, ⟨false, 1, isv .i64 acs⟩] (· = ⟨.a (.s (.bool true)), [], []⟩) := by
  have hs1 := isv_scal .i64 ls
  have hs2 := isv_scal .i64 acs
  have hs3 := bks_scal c
  obtain ⟨Bf, hBf⟩ : ∃ B : Bool, B = true ↔ N ≤ 24 ∧ ∀ b ∈ c, b.l.length ≤ 20 := by
    by_cases h : N ≤ 24 ∧ ∀ b ∈ c, b.l.length ≤ 20
    · exact ⟨true, by simp only [true_iff]; exact h⟩
    · exact ⟨false, by simp only [Bool.false_eq_true, false_iff]; exact h⟩
  have cfew := few_fn c N hN hN2 Bf hBf
  by_cases hg : p ≤ 30 ∧ Bf = true ∧ b.l.length ≤ 20
  case neg =>
    obtain ⟨A, L, l⟩ := b
    dsimp only [Bk.C] at *
    clear hBf hN
    generalize isv .i64 ls = LL at *
    generalize isv .i64 acs = AA at *
    generalize bks c = CV at *
    generalize l.length = K at *
    generalize mzs l = M at *
    by_cases h1 : p ≤ 30
    · cases Bf with
      | false =>
        refine fn_of_vc mixed tys_ok _ _ Try.func3 (by kernel_rfl) rfl Try.ntmps3 (by rw [Try.results3]) rfl ?_; dsimp only [argTm, argHl, Nat.zero_add, Nat.reduceAdd, List.length_nil, List.length_cons]
        (repeat' ((conv => whnf); first | ((first | apply Br.mk | apply Gd.mk) <;> (intro hb; first | exact aK2 hb | (simp only [d1, d2, beq_iff_eq, bne_iff_ne, d3, d4, d5, d6, Int.not_lt, Int.not_le, ge_iff_le, gt_iff_lt, ne_eq, d7] at hb; first | (exfalso; omega) | skip) | skip))  |  (refine Eqs.mk _ (eqt_ok _ _ rfl _ _ _ rfl) ?_)  |  (refine vcall_pure (awake17_fn) rfl ?_)  |  (refine vcall_det (cfew) [⟨_, 0⟩] [(_, _)] rfl ⟨rfl, trivial⟩ ⟨rfl, rowM_ro (by assumption), trivial⟩ ⟨rfl, up_ok rfl⟩ ?_) | ((with_reducible apply Vl.mk (α := Nat)); · exact aNt) | (with_reducible apply sd_draw; · kernel_rfl) | (apply Sd.mk; · exact aSd) | ((with_reducible apply Vl.mk (α := Int)); · exact aAr) | ((with_reducible first | apply Vl.mk (α := Bool) | apply Vl.mk (α := Nat) | apply Vl.mk (α := ByteArray) | apply Ge.mk (α := Row) | apply Ge.mk (α := SV) | apply Ge.mk (α := AV)); · exact rfl) | (refine And.intro rfl ?_) | ((with_reducible first | apply Vl.mk (α := List SV) | apply Vl.mk (α := Ef) | apply Vl.mk (α := TV) | apply Ge.mk (α := List SV) | apply Sg.mk | apply Sk.mk); · exact aCl) | ((first | apply Br.mk | apply Gd.mk) <;> (intro hb; first | exact aKl hb | (simp only [d1, d2, beq_iff_eq, bne_iff_ne, d3, d4, d5, d6, Int.not_lt, Int.not_le, ge_iff_le, gt_iff_lt, ne_eq, d7] at hb; first | (exfalso; omega) | skip) | skip)) | (apply Sd.mk; · exact aS2))); (all_goals (try (conv => whnf)))
        all_goals first | (exfalso; omega) | (exfalso; simp at hb; done) | (apply Fin.mk (m := [(0, some 0), (1, some 1), (2, some 2)]); (focus exact rfl); (all_goals ((try (show HlS _ _ [] _)); first | (exact aFi) | exact rfl))) | trace_state
      | true =>
        have h2 : ¬ K ≤ 20 := fun h => hg ⟨h1, rfl, h⟩
        refine fn_of_vc mixed tys_ok _ _ Try.func3 (by kernel_rfl) rfl Try.ntmps3 (by rw [Try.results3]) rfl ?_; dsimp only [argTm, argHl, Nat.zero_add, Nat.reduceAdd, List.length_nil, List.length_cons]
        (repeat' ((conv => whnf); first | ((first | apply Br.mk | apply Gd.mk) <;> (intro hb; first | exact aK2 hb | (simp only [d1, d2, beq_iff_eq, bne_iff_ne, d3, d4, d5, d6, Int.not_lt, Int.not_le, ge_iff_le, gt_iff_lt, ne_eq, d7] at hb; first | (exfalso; omega) | skip) | skip))  |  (refine Eqs.mk _ (eqt_ok _ _ rfl _ _ _ rfl) ?_)  |  (refine vcall_pure (awake17_fn) rfl ?_)  |  (refine vcall_det (cfew) [⟨_, 0⟩] [(_, _)] rfl ⟨rfl, trivial⟩ ⟨rfl, rowM_ro (by assumption), trivial⟩ ⟨rfl, up_ok rfl⟩ ?_) | ((with_reducible apply Vl.mk (α := Nat)); · exact aNt) | (with_reducible apply sd_draw; · kernel_rfl) | (apply Sd.mk; · exact aSd) | ((with_reducible apply Vl.mk (α := Int)); · exact aAr) | ((with_reducible first | apply Vl.mk (α := Bool) | apply Vl.mk (α := Nat) | apply Vl.mk (α := ByteArray) | apply Ge.mk (α := Row) | apply Ge.mk (α := SV) | apply Ge.mk (α := AV)); · exact rfl) | (refine And.intro rfl ?_) | ((with_reducible first | apply Vl.mk (α := List SV) | apply Vl.mk (α := Ef) | apply Vl.mk (α := TV) | apply Ge.mk (α := List SV) | apply Sg.mk | apply Sk.mk); · exact aCl) | ((first | apply Br.mk | apply Gd.mk) <;> (intro hb; first | exact aKl hb | (simp only [d1, d2, beq_iff_eq, bne_iff_ne, d3, d4, d5, d6, Int.not_lt, Int.not_le, ge_iff_le, gt_iff_lt, ne_eq, d7] at hb; first | (exfalso; omega) | skip) | skip)) | (apply Sd.mk; · exact aS2))); (all_goals (try (conv => whnf)))
        all_goals first | (exfalso; omega) | (exfalso; simp at hb; done) | (apply Fin.mk (m := [(0, some 0), (1, some 1), (2, some 2)]); (focus exact rfl); (all_goals ((try (show HlS _ _ [] _)); first | (exact aFi) | exact rfl))) | trace_state
    · refine fn_of_vc mixed tys_ok _ _ Try.func3 (by kernel_rfl) rfl Try.ntmps3 (by rw [Try.results3]) rfl ?_; dsimp only [argTm, argHl, Nat.zero_add, Nat.reduceAdd, List.length_nil, List.length_cons]
      (repeat' ((conv => whnf); first | ((first | apply Br.mk | apply Gd.mk) <;> (intro hb; first | exact aK2 hb | (simp only [d1, d2, beq_iff_eq, bne_iff_ne, d3, d4, d5, d6, Int.not_lt, Int.not_le, ge_iff_le, gt_iff_lt, ne_eq, d7] at hb; first | (exfalso; omega) | skip) | skip))  |  (refine Eqs.mk _ (eqt_ok _ _ rfl _ _ _ rfl) ?_)  |  (refine vcall_pure (awake17_fn) rfl ?_)  |  (refine vcall_det (cfew) [⟨_, 0⟩] [(_, _)] rfl ⟨rfl, trivial⟩ ⟨rfl, rowM_ro (by assumption), trivial⟩ ⟨rfl, up_ok rfl⟩ ?_) | ((with_reducible apply Vl.mk (α := Nat)); · exact aNt) | (with_reducible apply sd_draw; · kernel_rfl) | (apply Sd.mk; · exact aSd) | ((with_reducible apply Vl.mk (α := Int)); · exact aAr) | ((with_reducible first | apply Vl.mk (α := Bool) | apply Vl.mk (α := Nat) | apply Vl.mk (α := ByteArray) | apply Ge.mk (α := Row) | apply Ge.mk (α := SV) | apply Ge.mk (α := AV)); · exact rfl) | (refine And.intro rfl ?_) | ((with_reducible first | apply Vl.mk (α := List SV) | apply Vl.mk (α := Ef) | apply Vl.mk (α := TV) | apply Ge.mk (α := List SV) | apply Sg.mk | apply Sk.mk); · exact aCl) | ((first | apply Br.mk | apply Gd.mk) <;> (intro hb; first | exact aKl hb | (simp only [d1, d2, beq_iff_eq, bne_iff_ne, d3, d4, d5, d6, Int.not_lt, Int.not_le, ge_iff_le, gt_iff_lt, ne_eq, d7] at hb; first | (exfalso; omega) | skip) | skip)) | (apply Sd.mk; · exact aS2))); (all_goals (try (conv => whnf)))
      all_goals first | (exfalso; omega) | (exfalso; simp at hb; done) | (apply Fin.mk (m := [(0, some 0), (1, some 1), (2, some 2)]); (focus exact rfl); (all_goals ((try (show HlS _ _ [] _)); first | (exact aFi) | exact rfl))) | trace_state
  obtain ⟨hp2, rfl, hbl2⟩ := hg
  have cc := code17_fn ls n hn hn2
  have hxl := c17_len ls 128
  have hxr := c17_lt ls 128
  have s7 := wsv_scal (c17 ls 128)
  generalize c17 ls 128 = X at *
  obtain ⟨hk1, hk2⟩ := madeL_ok X hxr acs p
  have cm := made_fn X hxr hxl acs p hp (by omega)
  obtain ⟨Y, hY, hYc⟩ : ∃ Y : Nat, Y < 128 ∧ x % 512 / 4 = Y := ⟨_, by omega, rfl⟩
  obtain ⟨b2, hb2, cb⟩ := rbuildF_fn X hxl hxr (Y * 4) (by omega) 5
  have cr := rnd_fn fr 5 (by omega) (by omega)
  have hf0 := Int.emod_nonneg fr (show (5 : Int) ≠ 0 by decide)
  generalize fr % 5 = f5 at *
  obtain ⟨xb, DV, IV, WV, ok, B, K, R, s4, s5, s6, f1, f2, f3, f4, i1, i2, i3, w1, w2, w3, k1, k2⟩ := tells_ct X hxl hxr (madeL X acs p) _ rfl (by omega) hk2 (Y * 4) b2 hb2 f5
  have s8 := bks_scal (madeL X acs p)
  have r1 : Int.tmod (x : Int) 512 = ((x % 512 : Nat) : Int) := by rw [Int.tmod_eq_emod_of_nonneg (by omega)]; omega
  have r2 : IntKind.u32.wrap (Int.tdiv ((x % 512 : Nat) : Int) 4) = (Y : Int) := by rw [Int.tdiv_eq_ediv_of_nonneg (by omega), wu32 (by omega) (by omega)]; omega
  have r3 : IntKind.u32.wrap ((Y : Int) * 4) = ((Y * 4 : Nat) : Int) := by rw [wu32 (by omega) (by omega)]; omega
  obtain ⟨A, L, l⟩ := b
  obtain ⟨A2, L2, l2⟩ := b2
  obtain ⟨xA, xL, xl⟩ := xb
  dsimp only [Bk.C] at *
  clear hBf hN hk1 hk2 hb2
  generalize isv .i64 ls = LL at *
  generalize isv .i64 acs = AA at *
  generalize bks c = CV at *
  generalize wsv X = XX at *
  generalize bks (madeL X acs p) = MV at *
  generalize (madeL X acs p).length = MN at *
  generalize x % 512 = x5 at *
  generalize l.length = KL at *
  generalize mzs l = M at *
  generalize l2.length = KL2 at *
  generalize mzs l2 = M2 at *
  generalize xl.length = XN at *
  generalize mzs xl = XM at *
  cases ok <;> cases B
  all_goals
    refine fn_of_vc mixed tys_ok _ _ Try.func3 (by kernel_rfl) rfl Try.ntmps3 (by rw [Try.results3]) rfl ?_; dsimp only [argTm, argHl, Nat.zero_add, Nat.reduceAdd, List.length_nil, List.length_cons]
    (repeat' ((conv => whnf); first | ((first | apply Br.mk | apply Gd.mk) <;> (intro hb; first | exact aK2 hb | (simp only [d1, d2, beq_iff_eq, bne_iff_ne, d3, d4, d5, d6, Int.not_lt, Int.not_le, ge_iff_le, gt_iff_lt, ne_eq, d7] at hb; first | (exfalso; omega) | skip) | skip))  |  (refine Eqs.mk _ (eqt_ok _ _ rfl _ _ _ rfl) ?_)  |  ((with_reducible apply Vl.mk (α := Int)); · with_reducible first | exact r1 | exact r2 | exact r3)  |  (refine vcall_pure (awake17_fn) rfl ?_)  |  (refine vcall_pure (cr) rfl ?_)  |  (refine vcall_det (cfew) [⟨_, 0⟩] [(_, _)] rfl ⟨rfl, trivial⟩ ⟨rfl, rowM_ro (by assumption), trivial⟩ ⟨rfl, up_ok rfl⟩ ?_)  |  (refine vcall_det (cc) [⟨_, 0⟩] [(_, _)] rfl ⟨rfl, trivial⟩ ⟨rfl, rowM_ro (by assumption), trivial⟩ ⟨rfl, up_ok rfl⟩ ?_)  |  (refine vcall_det (cm) [⟨_, 0⟩, ⟨_, 0⟩] [(_, _), (_, _)] rfl ⟨rfl, rfl, trivial⟩ ⟨rfl, rowM_ro (by assumption), rfl, rowM_ro (by assumption), trivial⟩ ⟨rfl, up_ok rfl⟩ ?_)  |  (refine vcall_det (cb) [⟨_, 0⟩] [(_, _)] rfl ⟨rfl, trivial⟩ ⟨rfl, rowM_ro (by assumption), trivial⟩ ⟨rfl, up_ok rfl⟩ ?_)  |  (refine vcall_det (f1) [⟨_, 0⟩] [(_, _)] rfl ⟨rfl, trivial⟩ ⟨rfl, rowM_ro (by assumption), trivial⟩ ⟨rfl, up_ok rfl⟩ ?_)  |  (refine vcall_det (f2) [⟨_, 0⟩] [(_, _)] rfl ⟨rfl, trivial⟩ ⟨rfl, rowM_ro (by assumption), trivial⟩ ⟨rfl, up_ok rfl⟩ ?_)  |  (refine vcall_pure (f3) rfl ?_)  |  (refine vcall_det (f4) [⟨_, 0⟩, ⟨_, 0⟩] [(_, _), (_, _)] rfl ⟨rfl, rfl, trivial⟩ ⟨rfl, rowM_ro (by assumption), rfl, rowM_ro (by assumption), trivial⟩ ⟨rfl, up_ok rfl⟩ ?_)  |  (refine vcall_det (i1) [⟨_, 0⟩] [(_, _)] rfl ⟨rfl, trivial⟩ ⟨rfl, rowM_ro (by assumption), trivial⟩ ⟨rfl, up_ok rfl⟩ ?_)  |  (refine vcall_det (i2) [⟨_, 0⟩] [(_, _)] rfl ⟨rfl, trivial⟩ ⟨rfl, rowM_ro (by assumption), trivial⟩ ⟨rfl, up_ok rfl⟩ ?_)  |  (refine vcall_det (i3) [⟨_, 0⟩, ⟨_, 0⟩] [(_, _), (_, _)] rfl ⟨rfl, rfl, trivial⟩ ⟨rfl, rowM_ro (by assumption), rfl, rowM_ro (by assumption), trivial⟩ ⟨rfl, up_ok rfl⟩ ?_)  |  (refine vcall_det (w1) [⟨_, 0⟩] [(_, _)] rfl ⟨rfl, trivial⟩ ⟨rfl, rowM_ro (by assumption), trivial⟩ ⟨rfl, up_ok rfl⟩ ?_)  |  (refine vcall_det (w2) [⟨_, 0⟩] [(_, _)] rfl ⟨rfl, trivial⟩ ⟨rfl, rowM_ro (by assumption), trivial⟩ ⟨rfl, up_ok rfl⟩ ?_)  |  (refine vcall_det (w3) [⟨_, 0⟩, ⟨_, 0⟩] [(_, _), (_, _)] rfl ⟨rfl, rfl, trivial⟩ ⟨rfl, rowM_ro (by assumption), rfl, rowM_ro (by assumption), trivial⟩ ⟨rfl, up_ok rfl⟩ ?_)  |  (refine vcall_det (k1) [⟨_, 0⟩, ⟨_, 0⟩] [(_, _), (_, _)] rfl ⟨rfl, rfl, trivial⟩ ⟨rfl, rowM_ro (by assumption), rfl, rowM_ro (by assumption), trivial⟩ ⟨rfl, up_ok rfl⟩ ?_)  |  (refine vcall_det (k2) [⟨_, 0⟩, ⟨_, 0⟩] [(_, _), (_, _)] rfl ⟨rfl, rfl, trivial⟩ ⟨rfl, rowM_ro (by assumption), rfl, rowM_ro (by assumption), trivial⟩ ⟨rfl, up_ok rfl⟩ ?_) | ((with_reducible apply Vl.mk (α := Nat)); · exact aNt) | (with_reducible apply sd_draw; · kernel_rfl) | (apply Sd.mk; · exact aSd) | ((with_reducible apply Vl.mk (α := Int)); · exact aAr) | ((with_reducible first | apply Vl.mk (α := Bool) | apply Vl.mk (α := Nat) | apply Vl.mk (α := ByteArray) | apply Ge.mk (α := Row) | apply Ge.mk (α := SV) | apply Ge.mk (α := AV)); · exact rfl) | (refine And.intro rfl ?_) | ((with_reducible first | apply Vl.mk (α := List SV) | apply Vl.mk (α := Ef) | apply Vl.mk (α := TV) | apply Ge.mk (α := List SV) | apply Sg.mk | apply Sk.mk); · exact aCl) | ((first | apply Br.mk | apply Gd.mk) <;> (intro hb; first | exact aKl hb | (simp only [d1, d2, beq_iff_eq, bne_iff_ne, d3, d4, d5, d6, Int.not_lt, Int.not_le, ge_iff_le, gt_iff_lt, ne_eq, d7] at hb; first | (exfalso; omega) | skip) | skip)) | (apply Sd.mk; · exact aS2))); (all_goals (try (conv => whnf)))
    all_goals first | (exfalso; omega) | (exfalso; simp at hb; done) | (apply Fin.mk (m := [(0, some 0), (1, some 1), (2, some 2)]); (focus exact rfl); (all_goals ((try (show HlS _ _ [] _)); first | (exact aFi) | exact rfl))) | trace_state
end Go.Proofs.Ytcaddlighhiepaa
