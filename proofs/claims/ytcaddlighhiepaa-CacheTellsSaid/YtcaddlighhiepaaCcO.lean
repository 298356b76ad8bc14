/- Caches: Coherent of both sides. -/
import Derived.Test.YtcaddlighhiepaaCcN
namespace Go.Proofs.Ytcaddlighhiepaa
open Go Go.RowKit
set_option linter.unusedSimpArgs false
set_option linter.unusedVariables false

def CohP (xs : List Nat) (n : Nat) (c : List Bk) : Prop :=
  c.length ≤ 16 ∧ ∀ (i : Nat) (b : Bk), c[i]? = some b → (mayV b.A b.L b.l = true ∧ b = fdB xs n b.A 16) ∧ ∀ (j : Nat) (e : Bk), j < i → c[j]? = some e → e.A ≠ b.A
theorem coh_at (xs : List Nat) (n : Nat) (hl : xs.length = n) (hn : n < 4294967296) (hxr : ∀ y ∈ xs, y < 4294967296) (A : Nat) (hA : A < 4294967296) :
    ∃ (F : Bk) (BN BA : Nat) (MV : List SV), F = fdB xs n A 16 ∧ F.ok ∧ allScal MV = true ∧
      Fn Try.prog 44 [.s (.sl 0 0 n), .s (.int .u32 A), .s (.int .i64 16)] [⟨false, 1, wsv xs⟩] (· = ⟨.a (.agg [.int .u32 BA, .int .i64 BN, .sl 1 0 BN]), [], [⟨true, 6, MV⟩]⟩) ∧
      Fn Try.prog 43 [.agg [.int .u32 BA, .int .i64 BN, .sl 0 0 BN]] [⟨false, 6, MV⟩] (· = ⟨.a (.agg F.C), [], []⟩) ∧
      Fn Try.prog 10 [.s (.sl 0 0 n), .s (.int .u32 A), .s (.int .i64 16)] [⟨false, 1, wsv xs⟩] (· = ⟨.a (.agg [.int .u32 BA, .int .i64 BN, .sl 1 0 BN]), [], [⟨true, 6, MV⟩]⟩) ∧
      Fn Try.prog 23 [.agg [.int .u32 BA, .int .i64 BN, .sl 0 0 BN]] [⟨false, 6, MV⟩] (· = ⟨.a (.agg F.C), [], []⟩) := by
  have cb := buildA_fn xs n A 16 hl hn hA hxr _ rfl
  have rb := rbuildA_fn xs n A 16 hl hn hA hxr _ rfl
  obtain ⟨f1, f2, f3, f4, f5⟩ := fdB_ok xs n A 16 hA hxr
  exact ⟨fdB xs n A 16, _, _, _, rfl, f2, mcs_scal _, cb, f4, rb, f5⟩
def chst (N n i : Nat) (TT XX : List SV) : St :=
  ⟨[(0, .a (.s (.sl 0 0 N))), (1, .a (.s (.sl 1 0 n))), (13, .a (.s (.sl 0 0 N))), (14, .a (.s (.int .i64 N))), (15, .a (.s (.int .i64 i)))], [(0, some ⟨false, 3, TT⟩), (1, some ⟨false, 1, XX⟩)], [0]⟩
def chst2 (N n i j : Nat) (BC TT XX : List SV) : St :=
  ⟨[(0, .a (.s (.sl 0 0 N))), (1, .a (.s (.sl 1 0 n))), (13, .a (.s (.sl 0 0 N))), (14, .a (.s (.int .i64 N))), (15, .a (.s (.int .i64 i))), (6, .a (.s (.ptr 2 0))), (36, .a (.s (.sl 0 0 i))), (37, .a (.s (.int .i64 i))), (38, .a (.s (.int .i64 j)))],
   [(0, some ⟨false, 3, TT⟩), (1, some ⟨false, 1, XX⟩), (2, some ⟨true, 1, BC⟩)], [0]⟩
def CohU (xs : List Nat) (n : Nat) (c : List Bk) (i : Nat) : Prop :=
  ∀ (k : Nat) (b : Bk), k < i → c[k]? = some b → (mayV b.A b.L b.l = true ∧ b = fdB xs n b.A 16) ∧ ∀ (j : Nat) (e : Bk), j < k → c[j]? = some e → e.A ≠ b.A
theorem cohP_of (xs : List Nat) (n : Nat) (c : List Bk) (N : Nat) (hN : c.length = N) (h : N ≤ 16) (h2 : CohU xs n c N) : CohP xs n c :=
  ⟨by omega, fun i b hb => h2 i b (by have := (List.getElem?_eq_some_iff.1 hb).1; omega) hb⟩
theorem cohU_step (xs : List Nat) (n : Nat) (c : List Bk) (i : Nat) (b : Bk) (hb : c[i]? = some b) (h : CohU xs n c i) (h1 : mayV b.A b.L b.l = true) (h2 : b = fdB xs n b.A 16) (h3 : ∀ (j : Nat) (e : Bk), j < i → c[j]? = some e → e.A ≠ b.A) : CohU xs n c (i + 1) := fun k e hk he => by
  by_cases hki : k = i
  · subst hki; rw [hb] at he; obtain rfl := Option.some.inj he; exact ⟨⟨h1, h2⟩, h3⟩
  · exact h k e (by omega) he
theorem bfalse {B : Bool} {P : Prop} (h : B = true ↔ P) (hn : ¬ P) : B = false := by
  cases B with
  | false => rfl
  | true => exact absurd (h.1 rfl) hn
set_option maxHeartbeats 4000000 in
set_option maxRecDepth 100000 in
theorem coherent17_fn (xs : List Nat) (n : Nat) (hl : xs.length = n) (hn : n < 4294967296) (hxr : ∀ y ∈ xs, y < 4294967296) (c : List Bk) (N : Nat) (hN : c.length = N) (hN2 : N ≤ 1000000) (hok : ∀ b ∈ c, b.ok) (B : Bool) (hB : B = true ↔ CohP xs n c) :
    Fn Try.prog 20 [.s (.sl 0 0 N), .s (.sl 1 0 n)] [⟨false, 3, bks c⟩, ⟨false, 1, wsv xs⟩] (· = ⟨.a (.s (.bool B)), [], []⟩) := by
  have hst := bks_scal c
  have hsg := bks_seg c
  have hsx := wsv_scal xs
  have hat := coh_at xs n hl hn hxr
  generalize hTT : bks c = TT at *
  generalize hXX : wsv xs = XX at *
  by_cases h16 : N ≤ 16
  case neg =>
    obtain rfl : B = false := bfalse hB (fun h => by have := h.1; omega)
    refine fn_of_vc mixed tys_ok _ _ Try.func20 (by kernel_rfl) rfl Try.ntmps20 (by rw [Try.results20]) rfl ?_; dsimp only [argTm, argHl, Nat.zero_add, Nat.reduceAdd, List.length_nil, List.length_cons]
    (repeat' ((conv => whnf); first | ((first | apply Br.mk | apply Gd.mk) <;> (intro hb; first | exact aK2 hb | (simp only [d1, d2, beq_iff_eq, bne_iff_ne, d3, d4, d5, d6, Int.not_lt, Int.not_le, ge_iff_le, gt_iff_lt, ne_eq, d7] at hb; first | (exfalso; omega) | skip) | skip))  |  (refine Eqs.mk _ (eqt_ok _ _ rfl _ _ _ rfl) ?_) | ((with_reducible apply Vl.mk (α := Nat)); · exact aNt) | (with_reducible apply sd_draw; · kernel_rfl) | (apply Sd.mk; · exact aSd) | ((with_reducible apply Vl.mk (α := Int)); · exact aAr) | ((with_reducible first | apply Vl.mk (α := Bool) | apply Vl.mk (α := Nat) | apply Vl.mk (α := ByteArray) | apply Ge.mk (α := Row) | apply Ge.mk (α := SV) | apply Ge.mk (α := AV)); · exact rfl) | (refine And.intro rfl ?_) | ((with_reducible first | apply Vl.mk (α := List SV) | apply Vl.mk (α := Ef) | apply Vl.mk (α := TV) | apply Ge.mk (α := List SV) | apply Sg.mk | apply Sk.mk); · exact aCl) | ((first | apply Br.mk | apply Gd.mk) <;> (intro hb; first | exact aKl hb | (simp only [d1, d2, beq_iff_eq, bne_iff_ne, d3, d4, d5, d6, Int.not_lt, Int.not_le, ge_iff_le, gt_iff_lt, ne_eq, d7] at hb; first | (exfalso; omega) | skip) | skip)) | (apply Sd.mk; · exact aS2))); (all_goals (try (conv => whnf)))
    all_goals first | (exfalso; omega) | (apply Fin.mk (m := [(0, some 0), (1, some 1)]); (focus exact rfl); (all_goals ((try (show HlS _ _ [] _)); first | (exact aFi) | exact rfl))) | trace_state
  refine fn_of_vc mixed tys_ok _ _ Try.func20 (by kernel_rfl) rfl Try.ntmps20 (by rw [Try.results20]) rfl ?_; dsimp only [argTm, argHl, Nat.zero_add, Nat.reduceAdd, List.length_nil, List.length_cons]
  (repeat' ((conv => whnf); first | ((first | apply Br.mk | apply Gd.mk) <;> (intro hb; first | exact aK2 hb | (simp only [d1, d2, beq_iff_eq, bne_iff_ne, d3, d4, d5, d6, Int.not_lt, Int.not_le, ge_iff_le, gt_iff_lt, ne_eq, d7] at hb; first | (exfalso; omega) | skip) | skip))  |  (refine Eqs.mk _ (eqt_ok _ _ rfl _ _ _ rfl) ?_) | ((with_reducible apply Vl.mk (α := Nat)); · exact aNt) | (with_reducible apply sd_draw; · kernel_rfl) | (apply Sd.mk; · exact aSd) | ((with_reducible apply Vl.mk (α := Int)); · exact aAr) | ((with_reducible first | apply Vl.mk (α := Bool) | apply Vl.mk (α := Nat) | apply Vl.mk (α := ByteArray) | apply Ge.mk (α := Row) | apply Ge.mk (α := SV) | apply Ge.mk (α := AV)); · exact rfl) | (refine And.intro rfl ?_) | ((with_reducible first | apply Vl.mk (α := List SV) | apply Vl.mk (α := Ef) | apply Vl.mk (α := TV) | apply Ge.mk (α := List SV) | apply Sg.mk | apply Sk.mk); · exact aCl) | ((first | apply Br.mk | apply Gd.mk) <;> (intro hb; first | exact aKl hb | (simp only [d1, d2, beq_iff_eq, bne_iff_ne, d3, d4, d5, d6, Int.not_lt, Int.not_le, ge_iff_le, gt_iff_lt, ne_eq, d7] at hb; first | (exfalso; omega) | skip) | skip)) | (apply Sd.mk; · exact aS2))); (all_goals (try (conv => whnf)))
  all_goals first | (exfalso; omega) | skip
  refine Lp.inv (fun mm σ => ∃ i, mm + i = N ∧ CohU xs n c i ∧ σ = chst N n i TT XX) ?_ ?_
  · refine ⟨N, chst N n 0 TT XX, ?_, 0, by omega, fun k b hk => by omega, rfl⟩
    (apply wk_of (m := [(0, some 0), (1, some 1)]); (focus ((repeat' (first | exact tml_nil | apply tml_cons)); all_goals (exact aFi))); (focus ((show HlS _ _ [] _); (exact aFi))); (focus (first | exact rfl | rfl | kernel_rfl)))
  rintro mm σ ⟨i, hmi, hU, rfl⟩
  unfold chst
  by_cases hi : i < N
  case neg =>
    obtain rfl : i = N := by omega
    obtain rfl : B = true := hB.2 (cohP_of xs n c i hN h16 hU)
    clear hat hsg hB
    (repeat' ((conv => whnf); first | ((first | apply Br.mk | apply Gd.mk) <;> (intro hb; first | exact aK2 hb | (simp only [d1, d2, beq_iff_eq, bne_iff_ne, d3, d4, d5, d6, Int.not_lt, Int.not_le, ge_iff_le, gt_iff_lt, ne_eq, d7] at hb; first | (exfalso; omega) | skip) | skip))  |  (refine Eqs.mk _ (eqt_ok _ _ rfl _ _ _ rfl) ?_) | ((with_reducible apply Vl.mk (α := Nat)); · exact aNt) | (with_reducible apply sd_draw; · kernel_rfl) | (apply Sd.mk; · exact aSd) | ((with_reducible apply Vl.mk (α := Int)); · exact aAr) | ((with_reducible first | apply Vl.mk (α := Bool) | apply Vl.mk (α := Nat) | apply Vl.mk (α := ByteArray) | apply Ge.mk (α := Row) | apply Ge.mk (α := SV) | apply Ge.mk (α := AV)); · exact rfl) | (refine And.intro rfl ?_) | ((with_reducible first | apply Vl.mk (α := List SV) | apply Vl.mk (α := Ef) | apply Vl.mk (α := TV) | apply Ge.mk (α := List SV) | apply Sg.mk | apply Sk.mk); · exact aCl) | ((first | apply Br.mk | apply Gd.mk) <;> (intro hb; first | exact aKl hb | (simp only [d1, d2, beq_iff_eq, bne_iff_ne, d3, d4, d5, d6, Int.not_lt, Int.not_le, ge_iff_le, gt_iff_lt, ne_eq, d7] at hb; first | (exfalso; omega) | skip) | skip)) | (apply Sd.mk; · exact aS2))); (all_goals (try (conv => whnf)))
    all_goals first | (apply Fin.mk (m := [(0, some 0), (1, some 1)]); (focus exact rfl); (all_goals ((try (show HlS _ _ [] _)); first | (exact aFi) | exact rfl))) | trace_state
  obtain ⟨b, hb⟩ : ∃ b, c[i]? = some b := ⟨c[i]'(by omega), List.getElem?_eq_getElem (by omega)⟩
  have seg := hsg i b hb
  have hbk := hok b (List.mem_of_getElem? hb)
  obtain ⟨F, BN, BA, MV, hF, hFk, hMV, cb, cf, _, _⟩ := hat b.A hbk.1
  clear hat
  have q2 : IntKind.i64.wrap ((i : Int) + 1) = ((i + 1 : Nat) : Int) := by rw [wi64 (by omega) (by omega)]; omega
  have cm := mayF_fn b.A hbk.1 b.L b.l _ rfl hbk.2.1
  have cs := same_fn b F hbk _ rfl
  by_cases hgood : mayV b.A b.L b.l = true ∧ b = F
  case neg =>
    obtain rfl : B = false := bfalse hB (fun h => hgood ⟨(h.2 i b hb).1.1, by rw [hF]; exact (h.2 i b hb).1.2⟩)
    cases hmv : mayV b.A b.L b.l with
    | false =>
      rw [hmv] at cm
      obtain ⟨A, L, l⟩ := b
      obtain ⟨FA, FL, Fl⟩ := F
      dsimp only [Bk.C] at seg cm cs cf cb
      clear hsg hB hb hbk hgood hF hFk hU hmv hok
      generalize l.length = K at *
      generalize mzs l = M at *
      generalize Fl.length = FK at *
      generalize mzs Fl = FM at *
      (repeat' ((conv => whnf); first | (apply Sg.mk; · exact seg)  |  (refine vcall_det (cb) [⟨_, 0⟩] [(_, _)] rfl ⟨rfl, trivial⟩ ⟨rfl, rowM_ro (by assumption), trivial⟩ ⟨rfl, up_ok rfl⟩ ?_)  |  (refine vcall_det (cf) [⟨_, 0⟩] [(_, _)] rfl ⟨rfl, trivial⟩ ⟨rfl, rowM_ro (by assumption), trivial⟩ ⟨rfl, up_ok rfl⟩ ?_)  |  (refine vcall_pure (cm) rfl ?_)  |  ((first | apply Br.mk | apply Gd.mk) <;> (intro hb; first | exact aK2 hb | (simp only [d1, d2, beq_iff_eq, bne_iff_ne, d3, d4, d5, d6, Int.not_lt, Int.not_le, ge_iff_le, gt_iff_lt, ne_eq, d7] at hb; first | (exfalso; omega) | skip) | skip))  |  (refine Eqs.mk _ (eqt_ok _ _ rfl _ _ _ rfl) ?_) | ((with_reducible apply Vl.mk (α := Nat)); · exact aNt) | (with_reducible apply sd_draw; · kernel_rfl) | (apply Sd.mk; · exact aSd) | ((with_reducible apply Vl.mk (α := Int)); · exact aAr) | ((with_reducible first | apply Vl.mk (α := Bool) | apply Vl.mk (α := Nat) | apply Vl.mk (α := ByteArray) | apply Ge.mk (α := Row) | apply Ge.mk (α := SV) | apply Ge.mk (α := AV)); · exact rfl) | (refine And.intro rfl ?_) | ((with_reducible first | apply Vl.mk (α := List SV) | apply Vl.mk (α := Ef) | apply Vl.mk (α := TV) | apply Ge.mk (α := List SV) | apply Sg.mk | apply Sk.mk); · exact aCl) | ((first | apply Br.mk | apply Gd.mk) <;> (intro hb; first | exact aKl hb | (simp only [d1, d2, beq_iff_eq, bne_iff_ne, d3, d4, d5, d6, Int.not_lt, Int.not_le, ge_iff_le, gt_iff_lt, ne_eq, d7] at hb; first | (exfalso; omega) | skip) | skip)) | (apply Sd.mk; · exact aS2))); (all_goals (try (conv => whnf)))
      all_goals first | (exfalso; simp at hb; done) | (apply Fin.mk (m := [(0, some 0), (1, some 1)]); (focus exact rfl); (all_goals ((try (show HlS _ _ [] _)); first | (exact aFi) | exact rfl))) | trace_state
    | true =>
      have hne : bkEq b F = false := by
        cases h : bkEq b F with
        | false => rfl
        | true => exact absurd ⟨hmv, (bkEq_iff b F).1 h⟩ hgood
      rw [hmv] at cm
      rw [hne] at cs
      obtain ⟨A, L, l⟩ := b
      obtain ⟨FA, FL, Fl⟩ := F
      dsimp only [Bk.C] at seg cm cs cf cb
      clear hsg hB hb hbk hgood hF hFk hU hmv hok hne
      generalize l.length = K at *
      generalize mzs l = M at *
      generalize Fl.length = FK at *
      generalize mzs Fl = FM at *
      (repeat' ((conv => whnf); first | (apply Sg.mk; · exact seg)  |  (refine vcall_det (cb) [⟨_, 0⟩] [(_, _)] rfl ⟨rfl, trivial⟩ ⟨rfl, rowM_ro (by assumption), trivial⟩ ⟨rfl, up_ok rfl⟩ ?_)  |  (refine vcall_det (cf) [⟨_, 0⟩] [(_, _)] rfl ⟨rfl, trivial⟩ ⟨rfl, rowM_ro (by assumption), trivial⟩ ⟨rfl, up_ok rfl⟩ ?_)  |  (refine vcall_pure (cm) rfl ?_)  |  (refine vcall_pure (cs) rfl ?_)  |  ((first | apply Br.mk | apply Gd.mk) <;> (intro hb; first | exact aK2 hb | (simp only [d1, d2, beq_iff_eq, bne_iff_ne, d3, d4, d5, d6, Int.not_lt, Int.not_le, ge_iff_le, gt_iff_lt, ne_eq, d7] at hb; first | (exfalso; omega) | skip) | skip))  |  (refine Eqs.mk _ (eqt_ok _ _ rfl _ _ _ rfl) ?_) | ((with_reducible apply Vl.mk (α := Nat)); · exact aNt) | (with_reducible apply sd_draw; · kernel_rfl) | (apply Sd.mk; · exact aSd) | ((with_reducible apply Vl.mk (α := Int)); · exact aAr) | ((with_reducible first | apply Vl.mk (α := Bool) | apply Vl.mk (α := Nat) | apply Vl.mk (α := ByteArray) | apply Ge.mk (α := Row) | apply Ge.mk (α := SV) | apply Ge.mk (α := AV)); · exact rfl) | (refine And.intro rfl ?_) | ((with_reducible first | apply Vl.mk (α := List SV) | apply Vl.mk (α := Ef) | apply Vl.mk (α := TV) | apply Ge.mk (α := List SV) | apply Sg.mk | apply Sk.mk); · exact aCl) | ((first | apply Br.mk | apply Gd.mk) <;> (intro hb; first | exact aKl hb | (simp only [d1, d2, beq_iff_eq, bne_iff_ne, d3, d4, d5, d6, Int.not_lt, Int.not_le, ge_iff_le, gt_iff_lt, ne_eq, d7] at hb; first | (exfalso; omega) | skip) | skip)) | (apply Sd.mk; · exact aS2))); (all_goals (try (conv => whnf)))
      all_goals first | (exfalso; simp at hb; done) | (apply Fin.mk (m := [(0, some 0), (1, some 1)]); (focus exact rfl); (all_goals ((try (show HlS _ _ [] _)); first | (exact aFi) | exact rfl))) | trace_state
  obtain ⟨hmv, rfl⟩ := hgood
  rw [hmv] at cm
  rw [(bkEq_iff b b).2 rfl] at cs
  have hstep := cohU_step xs n c i b hb hU hmv hF
  have hno : ∀ (j : Nat) (e : Bk), j < i → c[j]? = some e → e.A = b.A → B = false := fun j e hj he hA => bfalse hB (fun h => (h.2 i b hb).2 j e hj he hA)
  obtain ⟨A, L, l⟩ := b
  dsimp only [Bk.C] at seg cm cs cf cb hstep hno
  clear hB hb hbk hF hFk hU hmv
  generalize l.length = K at *
  generalize mzs l = M at *
  (repeat' ((conv => whnf); first | (apply Sg.mk; · exact seg)  |  (refine vcall_det (cb) [⟨_, 0⟩] [(_, _)] rfl ⟨rfl, trivial⟩ ⟨rfl, rowM_ro (by assumption), trivial⟩ ⟨rfl, up_ok rfl⟩ ?_)  |  (refine vcall_det (cf) [⟨_, 0⟩] [(_, _)] rfl ⟨rfl, trivial⟩ ⟨rfl, rowM_ro (by assumption), trivial⟩ ⟨rfl, up_ok rfl⟩ ?_)  |  (refine vcall_pure (cm) rfl ?_)  |  (refine vcall_pure (cs) rfl ?_)  |  ((first | apply Br.mk | apply Gd.mk) <;> (intro hb; first | exact aK2 hb | (simp only [d1, d2, beq_iff_eq, bne_iff_ne, d3, d4, d5, d6, Int.not_lt, Int.not_le, ge_iff_le, gt_iff_lt, ne_eq, d7] at hb; first | (exfalso; omega) | skip) | skip))  |  (refine Eqs.mk _ (eqt_ok _ _ rfl _ _ _ rfl) ?_) | ((with_reducible apply Vl.mk (α := Nat)); · exact aNt) | (with_reducible apply sd_draw; · kernel_rfl) | (apply Sd.mk; · exact aSd) | ((with_reducible apply Vl.mk (α := Int)); · exact aAr) | ((with_reducible first | apply Vl.mk (α := Bool) | apply Vl.mk (α := Nat) | apply Vl.mk (α := ByteArray) | apply Ge.mk (α := Row) | apply Ge.mk (α := SV) | apply Ge.mk (α := AV)); · exact rfl) | (refine And.intro rfl ?_) | ((with_reducible first | apply Vl.mk (α := List SV) | apply Vl.mk (α := Ef) | apply Vl.mk (α := TV) | apply Ge.mk (α := List SV) | apply Sg.mk | apply Sk.mk); · exact aCl) | ((first | apply Br.mk | apply Gd.mk) <;> (intro hb; first | exact aKl hb | (simp only [d1, d2, beq_iff_eq, bne_iff_ne, d3, d4, d5, d6, Int.not_lt, Int.not_le, ge_iff_le, gt_iff_lt, ne_eq, d7] at hb; first | (exfalso; omega) | skip) | skip)) | (apply Sd.mk; · exact aS2))); (all_goals (try (conv => whnf)))
  all_goals first | (exfalso; simp at hb; done) | skip
  refine Lp.inv (fun m2 σ => ∃ j, m2 + j = i ∧ (∀ (k : Nat) (e : Bk), k < j → c[k]? = some e → e.A ≠ A) ∧ σ = chst2 N n i j [.int .u32 A, .int .i64 L, .fz 6 K M] TT XX) ?_ ?_
  · refine ⟨i, chst2 N n i 0 [.int .u32 A, .int .i64 L, .fz 6 K M] TT XX, ?_, 0, by omega, fun k e hk => by omega, rfl⟩
    (apply wk_of (m := [(0, some 0), (1, some 1), (2, some _)]); (focus ((repeat' (first | exact tml_nil | apply tml_cons)); all_goals (exact aFi))); (focus ((show HlS _ _ [] _); (exact aFi))); (focus (first | exact rfl | rfl | kernel_rfl)))
  rintro m2 σ ⟨j, hmj, hpre, rfl⟩
  unfold chst2
  have q3 : IntKind.i64.wrap ((j : Int) + 1) = ((j + 1 : Nat) : Int) := by rw [wi64 (by omega) (by omega)]; omega
  by_cases hj : j < i
  case neg =>
    obtain rfl : j = i := by omega
    have hst2 := hstep hpre
    clear hstep hno hpre hsg hok cb cf cm cs
    (repeat' ((conv => whnf); first | ((first | apply Br.mk | apply Gd.mk) <;> (intro hb; first | exact aK2 hb | (simp only [d1, d2, beq_iff_eq, bne_iff_ne, d3, d4, d5, d6, Int.not_lt, Int.not_le, ge_iff_le, gt_iff_lt, ne_eq, d7] at hb; first | (exfalso; omega) | skip) | skip))  |  (refine Eqs.mk _ (eqt_ok _ _ rfl _ _ _ rfl) ?_)  |  ((with_reducible apply Vl.mk (α := Int)); · with_reducible first | exact q2) | ((with_reducible apply Vl.mk (α := Nat)); · exact aNt) | (with_reducible apply sd_draw; · kernel_rfl) | (apply Sd.mk; · exact aSd) | ((with_reducible apply Vl.mk (α := Int)); · exact aAr) | ((with_reducible first | apply Vl.mk (α := Bool) | apply Vl.mk (α := Nat) | apply Vl.mk (α := ByteArray) | apply Ge.mk (α := Row) | apply Ge.mk (α := SV) | apply Ge.mk (α := AV)); · exact rfl) | (refine And.intro rfl ?_) | ((with_reducible first | apply Vl.mk (α := List SV) | apply Vl.mk (α := Ef) | apply Vl.mk (α := TV) | apply Ge.mk (α := List SV) | apply Sg.mk | apply Sk.mk); · exact aCl) | ((first | apply Br.mk | apply Gd.mk) <;> (intro hb; first | exact aKl hb | (simp only [d1, d2, beq_iff_eq, bne_iff_ne, d3, d4, d5, d6, Int.not_lt, Int.not_le, ge_iff_le, gt_iff_lt, ne_eq, d7] at hb; first | (exfalso; omega) | skip) | skip)) | (apply Sd.mk; · exact aS2))); (all_goals (try (conv => whnf)))
    all_goals first
      | (refine ⟨mm - 1, chst N n (j + 1) TT XX, by omega, ?_, j + 1, by omega, hst2, rfl⟩
         (apply wk_of (m := [(0, some 0), (1, some 1)]); (focus ((repeat' (first | exact tml_nil | apply tml_cons)); all_goals (exact aFi))); (focus ((show HlS _ _ [] _); (exact aFi))); (focus (first | exact rfl | rfl | kernel_rfl))))
      | trace_state
  obtain ⟨e, he⟩ : ∃ e, c[j]? = some e := ⟨c[j]'(by omega), List.getElem?_eq_getElem (by omega)⟩
  have sege := hsg j e he
  by_cases hA : e.A = A
  · obtain rfl : B = false := hno j e hj he hA
    obtain ⟨eA, eL, el⟩ := e
    dsimp only [Bk.C] at sege hA
    subst hA
    clear hno hpre hsg hok cb cf cm cs hstep he seg
    generalize el.length = eK at *
    generalize mzs el = eM at *
    (repeat' ((conv => whnf); first | (apply Sg.mk; · exact sege)  |  ((first | apply Br.mk | apply Gd.mk) <;> (intro hb; first | exact aK2 hb | (simp only [d1, d2, beq_iff_eq, bne_iff_ne, d3, d4, d5, d6, Int.not_lt, Int.not_le, ge_iff_le, gt_iff_lt, ne_eq, d7] at hb; first | (exfalso; omega) | skip) | skip))  |  (refine Eqs.mk _ (eqt_ok _ _ rfl _ _ _ rfl) ?_) | ((with_reducible apply Vl.mk (α := Nat)); · exact aNt) | (with_reducible apply sd_draw; · kernel_rfl) | (apply Sd.mk; · exact aSd) | ((with_reducible apply Vl.mk (α := Int)); · exact aAr) | ((with_reducible first | apply Vl.mk (α := Bool) | apply Vl.mk (α := Nat) | apply Vl.mk (α := ByteArray) | apply Ge.mk (α := Row) | apply Ge.mk (α := SV) | apply Ge.mk (α := AV)); · exact rfl) | (refine And.intro rfl ?_) | ((with_reducible first | apply Vl.mk (α := List SV) | apply Vl.mk (α := Ef) | apply Vl.mk (α := TV) | apply Ge.mk (α := List SV) | apply Sg.mk | apply Sk.mk); · exact aCl) | ((first | apply Br.mk | apply Gd.mk) <;> (intro hb; first | exact aKl hb | (simp only [d1, d2, beq_iff_eq, bne_iff_ne, d3, d4, d5, d6, Int.not_lt, Int.not_le, ge_iff_le, gt_iff_lt, ne_eq, d7] at hb; first | (exfalso; omega) | skip) | skip)) | (apply Sd.mk; · exact aS2))); (all_goals (try (conv => whnf)))
    all_goals first | (exfalso; simp at hb; done) | (apply Fin.mk (m := [(0, some 0), (1, some 1)]); (focus exact rfl); (all_goals ((try (show HlS _ _ [] _)); first | (exact aFi) | exact rfl))) | trace_state
  · have hpre2 : ∀ (k : Nat) (x : Bk), k < j + 1 → c[k]? = some x → x.A ≠ A := fun k x hk hx => by
      by_cases hkj : k = j
      · subst hkj; rw [he] at hx; obtain rfl := Option.some.inj hx; exact hA
      · exact hpre k x (by omega) hx
    obtain ⟨eA, eL, el⟩ := e
    dsimp only [Bk.C] at sege hA
    have hA' : ¬ ((eA : Nat) : Int) = (A : Int) := by omega
    clear hno hpre hsg hok cb cf cm cs hstep he seg hA
    generalize el.length = eK at *
    generalize mzs el = eM at *
    (repeat' ((conv => whnf); first | (apply Sg.mk; · exact sege)  |  ((with_reducible apply Vl.mk (α := Int)); · with_reducible first | exact q3)  |  ((first | apply Br.mk | apply Gd.mk) <;> (intro hb; first | exact aK2 hb | (simp only [d1, d2, beq_iff_eq, bne_iff_ne, d3, d4, d5, d6, Int.not_lt, Int.not_le, ge_iff_le, gt_iff_lt, ne_eq, d7] at hb; first | (exfalso; omega) | skip) | skip))  |  (refine Eqs.mk _ (eqt_ok _ _ rfl _ _ _ rfl) ?_) | ((with_reducible apply Vl.mk (α := Nat)); · exact aNt) | (with_reducible apply sd_draw; · kernel_rfl) | (apply Sd.mk; · exact aSd) | ((with_reducible apply Vl.mk (α := Int)); · exact aAr) | ((with_reducible first | apply Vl.mk (α := Bool) | apply Vl.mk (α := Nat) | apply Vl.mk (α := ByteArray) | apply Ge.mk (α := Row) | apply Ge.mk (α := SV) | apply Ge.mk (α := AV)); · exact rfl) | (refine And.intro rfl ?_) | ((with_reducible first | apply Vl.mk (α := List SV) | apply Vl.mk (α := Ef) | apply Vl.mk (α := TV) | apply Ge.mk (α := List SV) | apply Sg.mk | apply Sk.mk); · exact aCl) | ((first | apply Br.mk | apply Gd.mk) <;> (intro hb; first | exact aKl hb | (simp only [d1, d2, beq_iff_eq, bne_iff_ne, d3, d4, d5, d6, Int.not_lt, Int.not_le, ge_iff_le, gt_iff_lt, ne_eq, d7] at hb; first | (exfalso; omega) | skip) | skip)) | (apply Sd.mk; · exact aS2))); (all_goals (try (conv => whnf)))
    all_goals first
      | (exfalso; simp at hb; done)
      | (refine ⟨m2 - 1, chst2 N n i (j + 1) [.int .u32 A, .int .i64 L, .fz 6 K M] TT XX, by omega, ?_, j + 1, by omega, hpre2, rfl⟩
         (apply wk_of (m := [(0, some 0), (1, some 1), (2, some 2)]); (focus ((repeat' (first | exact tml_nil | apply tml_cons)); all_goals (exact aFi))); (focus ((show HlS _ _ [] _); (exact aFi))); (focus (first | exact rfl | rfl | kernel_rfl))))
      | trace_state
def rcst (N n i : Nat) (TT XX : List SV) : St :=
  ⟨[(0, .a (.s (.sl 0 0 N))), (1, .a (.s (.sl 1 0 n))), (5, .a (.s (.int .i64 i)))], [(0, some ⟨false, 3, TT⟩), (1, some ⟨false, 1, XX⟩)], [0]⟩
def rcst2 (N n i j : Nat) (TT XX : List SV) : St :=
  ⟨[(0, .a (.s (.sl 0 0 N))), (1, .a (.s (.sl 1 0 n))), (5, .a (.s (.int .i64 i))), (6, .a (.s (.int .i64 j)))], [(0, some ⟨false, 3, TT⟩), (1, some ⟨false, 1, XX⟩)], [0]⟩
set_option maxHeartbeats 4000000 in
set_option maxRecDepth 100000 in
theorem rcoherent17_fn (xs : List Nat) (n : Nat) (hl : xs.length = n) (hn : n < 4294967296) (hxr : ∀ y ∈ xs, y < 4294967296) (c : List Bk) (N : Nat) (hN : c.length = N) (hN2 : N ≤ 1000000) (hok : ∀ b ∈ c, b.ok) (B : Bool) (hB : B = true ↔ CohP xs n c) :
    Fn Try.prog 21 [.s (.sl 0 0 N), .s (.sl 1 0 n)] [⟨false, 3, bks c⟩, ⟨false, 1, wsv xs⟩] (· = ⟨.a (.s (.bool B)), [], []⟩) := by
  have hst := bks_scal c
  have hsg := bks_seg c
  have hsx := wsv_scal xs
  have hat := coh_at xs n hl hn hxr
  generalize hTT : bks c = TT at *
  generalize hXX : wsv xs = XX at *
  by_cases h16 : N ≤ 16
  case neg =>
    obtain rfl : B = false := bfalse hB (fun h => by have := h.1; omega)
    refine fn_of_vc mixed tys_ok _ _ Try.func21 (by kernel_rfl) rfl Try.ntmps21 (by rw [Try.results21]) rfl ?_; dsimp only [argTm, argHl, Nat.zero_add, Nat.reduceAdd, List.length_nil, List.length_cons]
    (repeat' ((conv => whnf); first | ((first | apply Br.mk | apply Gd.mk) <;> (intro hb; first | exact aK2 hb | (simp only [d1, d2, beq_iff_eq, bne_iff_ne, d3, d4, d5, d6, Int.not_lt, Int.not_le, ge_iff_le, gt_iff_lt, ne_eq, d7] at hb; first | (exfalso; omega) | skip) | skip))  |  (refine Eqs.mk _ (eqt_ok _ _ rfl _ _ _ rfl) ?_) | ((with_reducible apply Vl.mk (α := Nat)); · exact aNt) | (with_reducible apply sd_draw; · kernel_rfl) | (apply Sd.mk; · exact aSd) | ((with_reducible apply Vl.mk (α := Int)); · exact aAr) | ((with_reducible first | apply Vl.mk (α := Bool) | apply Vl.mk (α := Nat) | apply Vl.mk (α := ByteArray) | apply Ge.mk (α := Row) | apply Ge.mk (α := SV) | apply Ge.mk (α := AV)); · exact rfl) | (refine And.intro rfl ?_) | ((with_reducible first | apply Vl.mk (α := List SV) | apply Vl.mk (α := Ef) | apply Vl.mk (α := TV) | apply Ge.mk (α := List SV) | apply Sg.mk | apply Sk.mk); · exact aCl) | ((first | apply Br.mk | apply Gd.mk) <;> (intro hb; first | exact aKl hb | (simp only [d1, d2, beq_iff_eq, bne_iff_ne, d3, d4, d5, d6, Int.not_lt, Int.not_le, ge_iff_le, gt_iff_lt, ne_eq, d7] at hb; first | (exfalso; omega) | skip) | skip)) | (apply Sd.mk; · exact aS2))); (all_goals (try (conv => whnf)))
    all_goals first | (exfalso; omega) | (apply Fin.mk (m := [(0, some 0), (1, some 1)]); (focus exact rfl); (all_goals ((try (show HlS _ _ [] _)); first | (exact aFi) | exact rfl))) | trace_state
  refine fn_of_vc mixed tys_ok _ _ Try.func21 (by kernel_rfl) rfl Try.ntmps21 (by rw [Try.results21]) rfl ?_; dsimp only [argTm, argHl, Nat.zero_add, Nat.reduceAdd, List.length_nil, List.length_cons]
  (repeat' ((conv => whnf); first | ((first | apply Br.mk | apply Gd.mk) <;> (intro hb; first | exact aK2 hb | (simp only [d1, d2, beq_iff_eq, bne_iff_ne, d3, d4, d5, d6, Int.not_lt, Int.not_le, ge_iff_le, gt_iff_lt, ne_eq, d7] at hb; first | (exfalso; omega) | skip) | skip))  |  (refine Eqs.mk _ (eqt_ok _ _ rfl _ _ _ rfl) ?_) | ((with_reducible apply Vl.mk (α := Nat)); · exact aNt) | (with_reducible apply sd_draw; · kernel_rfl) | (apply Sd.mk; · exact aSd) | ((with_reducible apply Vl.mk (α := Int)); · exact aAr) | ((with_reducible first | apply Vl.mk (α := Bool) | apply Vl.mk (α := Nat) | apply Vl.mk (α := ByteArray) | apply Ge.mk (α := Row) | apply Ge.mk (α := SV) | apply Ge.mk (α := AV)); · exact rfl) | (refine And.intro rfl ?_) | ((with_reducible first | apply Vl.mk (α := List SV) | apply Vl.mk (α := Ef) | apply Vl.mk (α := TV) | apply Ge.mk (α := List SV) | apply Sg.mk | apply Sk.mk); · exact aCl) | ((first | apply Br.mk | apply Gd.mk) <;> (intro hb; first | exact aKl hb | (simp only [d1, d2, beq_iff_eq, bne_iff_ne, d3, d4, d5, d6, Int.not_lt, Int.not_le, ge_iff_le, gt_iff_lt, ne_eq, d7] at hb; first | (exfalso; omega) | skip) | skip)) | (apply Sd.mk; · exact aS2))); (all_goals (try (conv => whnf)))
  all_goals first | (exfalso; omega) | skip
  refine Lp.inv (fun mm σ => ∃ i, mm + i = N ∧ CohU xs n c i ∧ σ = rcst N n i TT XX) ?_ ?_
  · refine ⟨N, rcst N n 0 TT XX, ?_, 0, by omega, fun k b hk => by omega, rfl⟩
    (apply wk_of (m := [(0, some 0), (1, some 1)]); (focus ((repeat' (first | exact tml_nil | apply tml_cons)); all_goals (exact aFi))); (focus ((show HlS _ _ [] _); (exact aFi))); (focus (first | exact rfl | rfl | kernel_rfl)))
  rintro mm σ ⟨i, hmi, hU, rfl⟩
  unfold rcst
  by_cases hi : i < N
  case neg =>
    obtain rfl : i = N := by omega
    obtain rfl : B = true := hB.2 (cohP_of xs n c i hN h16 hU)
    clear hat hsg hB
    (repeat' ((conv => whnf); first | ((first | apply Br.mk | apply Gd.mk) <;> (intro hb; first | exact aK2 hb | (simp only [d1, d2, beq_iff_eq, bne_iff_ne, d3, d4, d5, d6, Int.not_lt, Int.not_le, ge_iff_le, gt_iff_lt, ne_eq, d7] at hb; first | (exfalso; omega) | skip) | skip))  |  (refine Eqs.mk _ (eqt_ok _ _ rfl _ _ _ rfl) ?_) | ((with_reducible apply Vl.mk (α := Nat)); · exact aNt) | (with_reducible apply sd_draw; · kernel_rfl) | (apply Sd.mk; · exact aSd) | ((with_reducible apply Vl.mk (α := Int)); · exact aAr) | ((with_reducible first | apply Vl.mk (α := Bool) | apply Vl.mk (α := Nat) | apply Vl.mk (α := ByteArray) | apply Ge.mk (α := Row) | apply Ge.mk (α := SV) | apply Ge.mk (α := AV)); · exact rfl) | (refine And.intro rfl ?_) | ((with_reducible first | apply Vl.mk (α := List SV) | apply Vl.mk (α := Ef) | apply Vl.mk (α := TV) | apply Ge.mk (α := List SV) | apply Sg.mk | apply Sk.mk); · exact aCl) | ((first | apply Br.mk | apply Gd.mk) <;> (intro hb; first | exact aKl hb | (simp only [d1, d2, beq_iff_eq, bne_iff_ne, d3, d4, d5, d6, Int.not_lt, Int.not_le, ge_iff_le, gt_iff_lt, ne_eq, d7] at hb; first | (exfalso; omega) | skip) | skip)) | (apply Sd.mk; · exact aS2))); (all_goals (try (conv => whnf)))
    all_goals first | (apply Fin.mk (m := [(0, some 0), (1, some 1)]); (focus exact rfl); (all_goals ((try (show HlS _ _ [] _)); first | (exact aFi) | exact rfl))) | trace_state
  obtain ⟨b, hbi⟩ : ∃ b, c[i]? = some b := ⟨c[i]'(by omega), List.getElem?_eq_getElem (by omega)⟩
  have seg := hsg i b hbi
  have hbk := hok b (List.mem_of_getElem? hbi)
  have q2 : IntKind.i64.wrap ((i : Int) + 1) = ((i + 1 : Nat) : Int) := by rw [wi64 (by omega) (by omega)]; omega
  have hno : ∀ (j : Nat) (e : Bk), j < i → c[j]? = some e → e.A = b.A → B = false := fun j e hj he hA => bfalse hB (fun h => (h.2 i b hbi).2 j e hj he hA)
  (repeat' ((conv => whnf); first | ((first | apply Br.mk | apply Gd.mk) <;> (intro hb; first | exact aK2 hb | (simp only [d1, d2, beq_iff_eq, bne_iff_ne, d3, d4, d5, d6, Int.not_lt, Int.not_le, ge_iff_le, gt_iff_lt, ne_eq, d7] at hb; first | (exfalso; omega) | skip) | skip))  |  (refine Eqs.mk _ (eqt_ok _ _ rfl _ _ _ rfl) ?_) | ((with_reducible apply Vl.mk (α := Nat)); · exact aNt) | (with_reducible apply sd_draw; · kernel_rfl) | (apply Sd.mk; · exact aSd) | ((with_reducible apply Vl.mk (α := Int)); · exact aAr) | ((with_reducible first | apply Vl.mk (α := Bool) | apply Vl.mk (α := Nat) | apply Vl.mk (α := ByteArray) | apply Ge.mk (α := Row) | apply Ge.mk (α := SV) | apply Ge.mk (α := AV)); · exact rfl) | (refine And.intro rfl ?_) | ((with_reducible first | apply Vl.mk (α := List SV) | apply Vl.mk (α := Ef) | apply Vl.mk (α := TV) | apply Ge.mk (α := List SV) | apply Sg.mk | apply Sk.mk); · exact aCl) | ((first | apply Br.mk | apply Gd.mk) <;> (intro hb; first | exact aKl hb | (simp only [d1, d2, beq_iff_eq, bne_iff_ne, d3, d4, d5, d6, Int.not_lt, Int.not_le, ge_iff_le, gt_iff_lt, ne_eq, d7] at hb; first | (exfalso; omega) | skip) | skip)) | (apply Sd.mk; · exact aS2))); (all_goals (try (conv => whnf)))
  refine Lp.inv (fun m2 σ => ∃ j, m2 + j = i ∧ (∀ (k : Nat) (e : Bk), k < j → c[k]? = some e → e.A ≠ b.A) ∧ σ = rcst2 N n i j TT XX) ?_ ?_
  · refine ⟨i, rcst2 N n i 0 TT XX, ?_, 0, by omega, fun k e hk => by omega, rfl⟩
    (apply wk_of (m := [(0, some 0), (1, some 1)]); (focus ((repeat' (first | exact tml_nil | apply tml_cons)); all_goals (exact aFi))); (focus ((show HlS _ _ [] _); (exact aFi))); (focus (first | exact rfl | rfl | kernel_rfl)))
  rintro m2 σ ⟨j, hmj, hpre, rfl⟩
  unfold rcst2
  have q3 : IntKind.i64.wrap ((j : Int) + 1) = ((j + 1 : Nat) : Int) := by rw [wi64 (by omega) (by omega)]; omega
  by_cases hj : j < i
  case pos =>
    obtain ⟨e, he⟩ : ∃ e, c[j]? = some e := ⟨c[j]'(by omega), List.getElem?_eq_getElem (by omega)⟩
    have sege := hsg j e he
    by_cases hA : e.A = b.A
    · obtain rfl : B = false := hno j e hj he hA
      obtain ⟨eA, eL, el⟩ := e
      obtain ⟨A, L, l⟩ := b
      dsimp only [Bk.C] at sege seg hA
      have ga := seg.2 0 _ rfl
      have ge := sege.2 0 _ rfl
      subst hA
      clear hno hpre hsg hok he hat hB hbi hbk
      generalize el.length = eK at *
      generalize mzs el = eM at *
      generalize l.length = K at *
      generalize mzs l = M at *
      (repeat' ((conv => whnf); first | ((with_reducible apply Ge.mk (α := SV)); · first | exact ge | exact ga)  |  (apply Sg.mk; · first | exact sege | exact seg)  |  ((first | apply Br.mk | apply Gd.mk) <;> (intro hb; first | exact aK2 hb | (simp only [d1, d2, beq_iff_eq, bne_iff_ne, d3, d4, d5, d6, Int.not_lt, Int.not_le, ge_iff_le, gt_iff_lt, ne_eq, d7] at hb; first | (exfalso; omega) | skip) | skip))  |  (refine Eqs.mk _ (eqt_ok _ _ rfl _ _ _ rfl) ?_) | ((with_reducible apply Vl.mk (α := Nat)); · exact aNt) | (with_reducible apply sd_draw; · kernel_rfl) | (apply Sd.mk; · exact aSd) | ((with_reducible apply Vl.mk (α := Int)); · exact aAr) | ((with_reducible first | apply Vl.mk (α := Bool) | apply Vl.mk (α := Nat) | apply Vl.mk (α := ByteArray) | apply Ge.mk (α := Row) | apply Ge.mk (α := SV) | apply Ge.mk (α := AV)); · exact rfl) | (refine And.intro rfl ?_) | ((with_reducible first | apply Vl.mk (α := List SV) | apply Vl.mk (α := Ef) | apply Vl.mk (α := TV) | apply Ge.mk (α := List SV) | apply Sg.mk | apply Sk.mk); · exact aCl) | ((first | apply Br.mk | apply Gd.mk) <;> (intro hb; first | exact aKl hb | (simp only [d1, d2, beq_iff_eq, bne_iff_ne, d3, d4, d5, d6, Int.not_lt, Int.not_le, ge_iff_le, gt_iff_lt, ne_eq, d7] at hb; first | (exfalso; omega) | skip) | skip)) | (apply Sd.mk; · exact aS2))); (all_goals (try (conv => whnf)))
      all_goals first | (exfalso; simp at hb; done) | (apply Fin.mk (m := [(0, some 0), (1, some 1)]); (focus exact rfl); (all_goals ((try (show HlS _ _ [] _)); first | (exact aFi) | exact rfl))) | trace_state
    · have hpre2 : ∀ (k : Nat) (x : Bk), k < j + 1 → c[k]? = some x → x.A ≠ b.A := fun k x hk hx => by
        by_cases hkj : k = j
        · subst hkj; rw [he] at hx; obtain rfl := Option.some.inj hx; exact hA
        · exact hpre k x (by omega) hx
      obtain ⟨eA, eL, el⟩ := e
      obtain ⟨A, L, l⟩ := b
      dsimp only [Bk.C] at sege seg hA hpre2
      have ga := seg.2 0 _ rfl
      have ge := sege.2 0 _ rfl
      have hA' : ¬ ((eA : Nat) : Int) = (A : Int) := by omega
      clear hno hpre hsg hok he hA hat hB hbi hbk
      generalize el.length = eK at *
      generalize mzs el = eM at *
      generalize l.length = K at *
      generalize mzs l = M at *
      (repeat' ((conv => whnf); first | ((with_reducible apply Ge.mk (α := SV)); · first | exact ge | exact ga)  |  (apply Sg.mk; · first | exact sege | exact seg)  |  ((with_reducible apply Vl.mk (α := Int)); · with_reducible first | exact q3)  |  ((first | apply Br.mk | apply Gd.mk) <;> (intro hb; first | exact aK2 hb | (simp only [d1, d2, beq_iff_eq, bne_iff_ne, d3, d4, d5, d6, Int.not_lt, Int.not_le, ge_iff_le, gt_iff_lt, ne_eq, d7] at hb; first | (exfalso; omega) | skip) | skip))  |  (refine Eqs.mk _ (eqt_ok _ _ rfl _ _ _ rfl) ?_) | ((with_reducible apply Vl.mk (α := Nat)); · exact aNt) | (with_reducible apply sd_draw; · kernel_rfl) | (apply Sd.mk; · exact aSd) | ((with_reducible apply Vl.mk (α := Int)); · exact aAr) | ((with_reducible first | apply Vl.mk (α := Bool) | apply Vl.mk (α := Nat) | apply Vl.mk (α := ByteArray) | apply Ge.mk (α := Row) | apply Ge.mk (α := SV) | apply Ge.mk (α := AV)); · exact rfl) | (refine And.intro rfl ?_) | ((with_reducible first | apply Vl.mk (α := List SV) | apply Vl.mk (α := Ef) | apply Vl.mk (α := TV) | apply Ge.mk (α := List SV) | apply Sg.mk | apply Sk.mk); · exact aCl) | ((first | apply Br.mk | apply Gd.mk) <;> (intro hb; first | exact aKl hb | (simp only [d1, d2, beq_iff_eq, bne_iff_ne, d3, d4, d5, d6, Int.not_lt, Int.not_le, ge_iff_le, gt_iff_lt, ne_eq, d7] at hb; first | (exfalso; omega) | skip) | skip)) | (apply Sd.mk; · exact aS2))); (all_goals (try (conv => whnf)))
      all_goals first
        | (exfalso; simp at hb; done)
        | (refine ⟨m2 - 1, rcst2 N n i (j + 1) TT XX, by omega, ?_, j + 1, by omega, hpre2, rfl⟩
           (apply wk_of (m := [(0, some 0), (1, some 1)]); (focus ((repeat' (first | exact tml_nil | apply tml_cons)); all_goals (exact aFi))); (focus ((show HlS _ _ [] _); (exact aFi))); (focus (first | exact rfl | rfl | kernel_rfl))))
        | trace_state
  obtain rfl : j = i := by omega
  obtain ⟨F, BN, BA, MV, hF, hFk, hMV, _, _, cb, cf⟩ := hat b.A hbk.1
  clear hat hno
  have cm := rmayF_fn b.A hbk.1 b.L b.l _ rfl hbk.2.1
  have cs := sameblkF_fn b F hbk _ rfl
  by_cases hgood : mayV b.A b.L b.l = true ∧ b = F
  case neg =>
    obtain rfl : B = false := bfalse hB (fun h => hgood ⟨(h.2 j b hbi).1.1, by rw [hF]; exact (h.2 j b hbi).1.2⟩)
    cases hmv : mayV b.A b.L b.l with
    | false =>
      rw [hmv] at cm
      obtain ⟨A, L, l⟩ := b
      obtain ⟨FA, FL, Fl⟩ := F
      dsimp only [Bk.C] at seg cm cs cf cb
      have ga := seg.2 0 _ rfl
      clear hsg hB hbi hbk hgood hF hFk hU hmv hok hpre
      generalize l.length = K at *
      generalize mzs l = M at *
      generalize Fl.length = FK at *
      generalize mzs Fl = FM at *
      (repeat' ((conv => whnf); first | ((with_reducible apply Ge.mk (α := SV)); · exact ga)  |  (apply Sg.mk; · exact seg)  |  (refine vcall_det (cb) [⟨_, 0⟩] [(_, _)] rfl ⟨rfl, trivial⟩ ⟨rfl, rowM_ro (by assumption), trivial⟩ ⟨rfl, up_ok rfl⟩ ?_)  |  (refine vcall_det (cf) [⟨_, 0⟩] [(_, _)] rfl ⟨rfl, trivial⟩ ⟨rfl, rowM_ro (by assumption), trivial⟩ ⟨rfl, up_ok rfl⟩ ?_)  |  (refine vcall_pure (cm) rfl ?_)  |  ((first | apply Br.mk | apply Gd.mk) <;> (intro hb; first | exact aK2 hb | (simp only [d1, d2, beq_iff_eq, bne_iff_ne, d3, d4, d5, d6, Int.not_lt, Int.not_le, ge_iff_le, gt_iff_lt, ne_eq, d7] at hb; first | (exfalso; omega) | skip) | skip))  |  (refine Eqs.mk _ (eqt_ok _ _ rfl _ _ _ rfl) ?_) | ((with_reducible apply Vl.mk (α := Nat)); · exact aNt) | (with_reducible apply sd_draw; · kernel_rfl) | (apply Sd.mk; · exact aSd) | ((with_reducible apply Vl.mk (α := Int)); · exact aAr) | ((with_reducible first | apply Vl.mk (α := Bool) | apply Vl.mk (α := Nat) | apply Vl.mk (α := ByteArray) | apply Ge.mk (α := Row) | apply Ge.mk (α := SV) | apply Ge.mk (α := AV)); · exact rfl) | (refine And.intro rfl ?_) | ((with_reducible first | apply Vl.mk (α := List SV) | apply Vl.mk (α := Ef) | apply Vl.mk (α := TV) | apply Ge.mk (α := List SV) | apply Sg.mk | apply Sk.mk); · exact aCl) | ((first | apply Br.mk | apply Gd.mk) <;> (intro hb; first | exact aKl hb | (simp only [d1, d2, beq_iff_eq, bne_iff_ne, d3, d4, d5, d6, Int.not_lt, Int.not_le, ge_iff_le, gt_iff_lt, ne_eq, d7] at hb; first | (exfalso; omega) | skip) | skip)) | (apply Sd.mk; · exact aS2))); (all_goals (try (conv => whnf)))
      all_goals first | (exfalso; simp at hb; done) | (apply Fin.mk (m := [(0, some 0), (1, some 1)]); (focus exact rfl); (all_goals ((try (show HlS _ _ [] _)); first | (exact aFi) | exact rfl))) | trace_state
    | true =>
      have hne : bkEq b F = false := by
        cases h : bkEq b F with
        | false => rfl
        | true => exact absurd ⟨hmv, (bkEq_iff b F).1 h⟩ hgood
      rw [hmv] at cm
      rw [hne] at cs
      obtain ⟨A, L, l⟩ := b
      obtain ⟨FA, FL, Fl⟩ := F
      dsimp only [Bk.C] at seg cm cs cf cb
      have ga := seg.2 0 _ rfl
      clear hsg hB hbi hbk hgood hF hFk hU hmv hok hne hpre
      generalize l.length = K at *
      generalize mzs l = M at *
      generalize Fl.length = FK at *
      generalize mzs Fl = FM at *
      (repeat' ((conv => whnf); first | ((with_reducible apply Ge.mk (α := SV)); · exact ga)  |  (apply Sg.mk; · exact seg)  |  (refine vcall_det (cb) [⟨_, 0⟩] [(_, _)] rfl ⟨rfl, trivial⟩ ⟨rfl, rowM_ro (by assumption), trivial⟩ ⟨rfl, up_ok rfl⟩ ?_)  |  (refine vcall_det (cf) [⟨_, 0⟩] [(_, _)] rfl ⟨rfl, trivial⟩ ⟨rfl, rowM_ro (by assumption), trivial⟩ ⟨rfl, up_ok rfl⟩ ?_)  |  (refine vcall_pure (cm) rfl ?_)  |  (refine vcall_pure (cs) rfl ?_)  |  ((first | apply Br.mk | apply Gd.mk) <;> (intro hb; first | exact aK2 hb | (simp only [d1, d2, beq_iff_eq, bne_iff_ne, d3, d4, d5, d6, Int.not_lt, Int.not_le, ge_iff_le, gt_iff_lt, ne_eq, d7] at hb; first | (exfalso; omega) | skip) | skip))  |  (refine Eqs.mk _ (eqt_ok _ _ rfl _ _ _ rfl) ?_) | ((with_reducible apply Vl.mk (α := Nat)); · exact aNt) | (with_reducible apply sd_draw; · kernel_rfl) | (apply Sd.mk; · exact aSd) | ((with_reducible apply Vl.mk (α := Int)); · exact aAr) | ((with_reducible first | apply Vl.mk (α := Bool) | apply Vl.mk (α := Nat) | apply Vl.mk (α := ByteArray) | apply Ge.mk (α := Row) | apply Ge.mk (α := SV) | apply Ge.mk (α := AV)); · exact rfl) | (refine And.intro rfl ?_) | ((with_reducible first | apply Vl.mk (α := List SV) | apply Vl.mk (α := Ef) | apply Vl.mk (α := TV) | apply Ge.mk (α := List SV) | apply Sg.mk | apply Sk.mk); · exact aCl) | ((first | apply Br.mk | apply Gd.mk) <;> (intro hb; first | exact aKl hb | (simp only [d1, d2, beq_iff_eq, bne_iff_ne, d3, d4, d5, d6, Int.not_lt, Int.not_le, ge_iff_le, gt_iff_lt, ne_eq, d7] at hb; first | (exfalso; omega) | skip) | skip)) | (apply Sd.mk; · exact aS2))); (all_goals (try (conv => whnf)))
      all_goals first | (exfalso; simp at hb; done) | (apply Fin.mk (m := [(0, some 0), (1, some 1)]); (focus exact rfl); (all_goals ((try (show HlS _ _ [] _)); first | (exact aFi) | exact rfl))) | trace_state
  obtain ⟨hmv, rfl⟩ := hgood
  rw [hmv] at cm
  rw [(bkEq_iff b b).2 rfl] at cs
  have hstep := cohU_step xs n c j b hbi hU hmv hF hpre
  obtain ⟨A, L, l⟩ := b
  dsimp only [Bk.C] at seg cm cs cf cb
  have ga := seg.2 0 _ rfl
  clear hB hbi hbk hF hFk hU hmv hpre hsg hok
  generalize l.length = K at *
  generalize mzs l = M at *
  (repeat' ((conv => whnf); first | ((with_reducible apply Ge.mk (α := SV)); · exact ga)  |  (apply Sg.mk; · exact seg)  |  (refine vcall_det (cb) [⟨_, 0⟩] [(_, _)] rfl ⟨rfl, trivial⟩ ⟨rfl, rowM_ro (by assumption), trivial⟩ ⟨rfl, up_ok rfl⟩ ?_)  |  (refine vcall_det (cf) [⟨_, 0⟩] [(_, _)] rfl ⟨rfl, trivial⟩ ⟨rfl, rowM_ro (by assumption), trivial⟩ ⟨rfl, up_ok rfl⟩ ?_)  |  (refine vcall_pure (cm) rfl ?_)  |  (refine vcall_pure (cs) rfl ?_)  |  ((with_reducible apply Vl.mk (α := Int)); · with_reducible first | exact q2)  |  ((first | apply Br.mk | apply Gd.mk) <;> (intro hb; first | exact aK2 hb | (simp only [d1, d2, beq_iff_eq, bne_iff_ne, d3, d4, d5, d6, Int.not_lt, Int.not_le, ge_iff_le, gt_iff_lt, ne_eq, d7] at hb; first | (exfalso; omega) | skip) | skip))  |  (refine Eqs.mk _ (eqt_ok _ _ rfl _ _ _ rfl) ?_) | ((with_reducible apply Vl.mk (α := Nat)); · exact aNt) | (with_reducible apply sd_draw; · kernel_rfl) | (apply Sd.mk; · exact aSd) | ((with_reducible apply Vl.mk (α := Int)); · exact aAr) | ((with_reducible first | apply Vl.mk (α := Bool) | apply Vl.mk (α := Nat) | apply Vl.mk (α := ByteArray) | apply Ge.mk (α := Row) | apply Ge.mk (α := SV) | apply Ge.mk (α := AV)); · exact rfl) | (refine And.intro rfl ?_) | ((with_reducible first | apply Vl.mk (α := List SV) | apply Vl.mk (α := Ef) | apply Vl.mk (α := TV) | apply Ge.mk (α := List SV) | apply Sg.mk | apply Sk.mk); · exact aCl) | ((first | apply Br.mk | apply Gd.mk) <;> (intro hb; first | exact aKl hb | (simp only [d1, d2, beq_iff_eq, bne_iff_ne, d3, d4, d5, d6, Int.not_lt, Int.not_le, ge_iff_le, gt_iff_lt, ne_eq, d7] at hb; first | (exfalso; omega) | skip) | skip)) | (apply Sd.mk; · exact aS2))); (all_goals (try (conv => whnf)))
  all_goals first
    | (exfalso; simp at hb; done)
    | (refine ⟨mm - 1, rcst N n (j + 1) TT XX, by omega, ?_, j + 1, by omega, hstep, rfl⟩
       (apply wk_of (m := [(0, some 0), (1, some 1)]); (focus ((repeat' (first | exact tml_nil | apply tml_cons)); all_goals (exact aFi))); (focus ((show HlS _ _ [] _); (exact aFi))); (focus (first | exact rfl | rfl | kernel_rfl))))
    | trace_state
end Go.Proofs.Ytcaddlighhiepaa
