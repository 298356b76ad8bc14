/- CacheRecent. -/
import Derived.Test.YtcaddlighhiepaaCcJ
namespace Go.Proofs.Ytcaddlighhiepaa
open Go Go.RowKit
set_option linter.unusedSimpArgs false
set_option linter.unusedVariables false

theorem filter_pos {α : Type} (p : α → Bool) : ∀ (c : List α) (k : Nat) (e : α), c[k]? = some e → p e = true → ∃ k', k' ≤ k ∧ (c.filter p)[k']? = some e
  | [], k, e, h, _ => by simp at h
  | x :: l, 0, e, h, hp => by
    injection h with h; subst h
    exact ⟨0, Nat.le_refl _, by rw [List.filter_cons_of_pos hp]; rfl⟩
  | x :: l, k + 1, e, h, hp => by
    obtain ⟨k', h1, h2⟩ := filter_pos p l k e (by simpa using h) hp
    cases hx : p x with
    | true => exact ⟨k' + 1, by omega, by rw [List.filter_cons_of_pos hx]; exact h2⟩
    | false => exact ⟨k', by omega, by rw [List.filter_cons_of_neg (by rw [hx]; decide)]; exact h2⟩
/-- A block of the page of valid words is never empty. -/
theorem bl17 (ls : List Int) (a : Nat) (ha : a % 4 = 0) (ha2 : a < 512) : (blL (c17 ls 128) 128 a 16).length ≠ 0 ∧ blA 128 a 16 = a := by
  have hp : mpg 128 = 4 := rfl
  have hb : bok 128 a 16 = true := by
    unfold bok ld4
    rw [Bool.and_eq_true, decide_eq_true_eq]
    refine ⟨by omega, ?_⟩
    simp only [Bool.and_eq_true, decide_eq_true_eq]
    omega
  unfold blL blA
  rw [hb, if_pos rfl, if_pos rfl]
  have hl : 0 < lmt a 16 ∧ lmt a 16 ≤ 32 - a % 128 / 4 := by unfold lmt; omega
  have := (bl_full (c17 ls 128) (lmt a 16) (a / 4) hl.1 (fun j h1 h2 => c17_dok ls j (by omega))).1
  exact ⟨by omega, rfl⟩
def TP17 (c : List Bk) (i : Nat) : Prop := ∀ j, j < i → ∃ (k : Nat) (e : Bk), k < i ∧ c[k]? = some e ∧ e.A = 8 * j
def TM17 (c : List Bk) (i : Nat) : Prop := ∀ j, j < i → ∃ e ∈ c, e.A = 8 * j
def CI (c : List Bk) : Prop := c.length ≤ 16 ∧ ∀ e ∈ c, e.ok
theorem rec_ins (c : List Bk) (b : Bk) (i : Nat) (hi : i < 16) (hA : b.A = 8 * i) (hm : mayV b.A b.L b.l = true) (h : TP17 c i) : TP17 (insL c b) (i + 1) := fun j hj => by
  unfold insL
  rw [if_pos hm]
  by_cases e : j = i
  · subst e; exact ⟨0, b, by omega, rfl, hA⟩
  · obtain ⟨k, x, h1, h2, h3⟩ := h j (by omega)
    obtain ⟨k', g1, g2⟩ := filter_pos (fun e => decide (e.A ≠ b.A)) c k x h2 (by rw [decide_eq_true_eq]; omega)
    exact ⟨k' + 1, x, by omega, by rw [List.getElem?_cons_succ, List.getElem?_take, if_pos (by omega)]; exact g2, h3⟩
theorem frontL_mem {α : Type} (t : List α) (i : Nat) (e : α) (he : t[i]? = some e) : ∀ x, x ∈ frontL t i e ↔ x ∈ t := fun x => by
  have hlt := (List.getElem?_eq_some_iff.1 he).1
  have hs : t = t.take i ++ e :: t.drop (i + 1) := by
    conv => lhs; rw [← List.take_append_drop i t]
    rw [List.drop_eq_getElem_cons hlt, (List.getElem?_eq_some_iff.1 he).2]
  unfold frontL
  conv => rhs; rw [hs]
  simp only [List.mem_cons, List.mem_append]
  constructor
  · rintro (h | h | h)
    · exact .inr (.inl h)
    · exact .inl h
    · exact .inr (.inr h)
  · rintro (h | h | h)
    · exact .inr (.inl h)
    · exact .inl h
    · exact .inr (.inr h)
theorem frontL_len {α : Type} (t : List α) (i : Nat) (e : α) (he : t[i]? = some e) : (frontL t i e).length = t.length := by
  have hlt := (List.getElem?_eq_some_iff.1 he).1
  unfold frontL
  simp only [List.length_cons, List.length_append, List.length_take, List.length_drop]
  omega
theorem find_rec (c : List Bk) (i j : Nat) (hC : CI c) (hM : TM17 c i) (hj : j < i) : ∃ (c' : List Bk) (b : Bk), CI c' ∧ c'.length = c.length ∧ TM17 c' i ∧ b.A = 8 * j ∧
    Fn Try.prog 12 [.s (.sl 0 0 c.length), .s (.int .u32 (8 * j : Nat))] [⟨false, 3, bks c⟩] (· = ⟨.tup [.agg b.C, .s (.sl 1 0 c.length), .s (.bool true)], [], [⟨true, 3, bks c'⟩]⟩) := by
  obtain ⟨a, e, h1, h2, h3⟩ := idxU_found (8 * j) c 0 (hM j hj)
  rw [Nat.zero_add] at h1
  have cl := find_hit c c.length rfl (by have := hC.1; omega) hC.2 (8 * j) a e h2 h1
  refine ⟨frontL c a e, e, ⟨by rw [frontL_len c a e h2]; exact hC.1, fun x hx => hC.2 x ((frontL_mem c a e h2 x).1 hx)⟩, frontL_len c a e h2, fun k hk => ?_, h3, cl⟩
  obtain ⟨x, hx, hp⟩ := hM k hk
  exact ⟨x, (frontL_mem c a e h2 x).2 hx, hp⟩
theorem ins_rec (X : List Nat) (hxl : X.length = 128) (hxr : ∀ y ∈ X, y < 4294967296) (hbl : ∀ a, a % 4 = 0 → a < 512 → (blL X 128 a 16).length ≠ 0 ∧ blA 128 a 16 = a) (c : List Bk) (i : Nat) (hi : i < 16) (hC : CI c) (hT : TP17 c i) :
    ∃ (b : Bk) (C2 : List Bk) (BN BA : Nat) (MV : List SV), allScal MV = true ∧ CI C2 ∧ TP17 C2 (i + 1) ∧
      Fn Try.prog 10 [.s (.sl 0 0 128), .s (.int .u32 (8 * i : Nat)), .s (.int .i64 16)] [⟨false, 1, wsv X⟩] (· = ⟨.a (.agg [.int .u32 BA, .int .i64 BN, .sl 1 0 BN]), [], [⟨true, 6, MV⟩]⟩) ∧
      Fn Try.prog 23 [.agg [.int .u32 BA, .int .i64 BN, .sl 0 0 BN]] [⟨false, 6, MV⟩] (· = ⟨.a (.agg b.C), [], []⟩) ∧
      Fn Try.prog 16 [.s (.sl 0 0 c.length), .agg b.C] [⟨false, 3, bks c⟩] (· = ⟨.a (.s (.sl 1 0 C2.length)), [], [⟨true, 3, bks C2⟩]⟩) := by
  have h8 : 8 * i < 4294967296 ∧ (8 * i) % 4 = 0 ∧ 8 * i < 512 := by omega
  have h16 : c.length ≤ 1000000 := Nat.le_trans hC.1 (by decide)
  have cb := rbuildA_fn X 128 (8 * i) 16 hxl (by decide) h8.1 hxr _ rfl
  obtain ⟨f1, f2, f3, f4, f5⟩ := fdB_ok X 128 (8 * i) 16 h8.1 hxr
  obtain ⟨b1, b2⟩ := hbl (8 * i) h8.2.1 h8.2.2
  have hT' := rec_ins c (fdB X 128 (8 * i) 16) i hi (f1.trans b2) (f3 b1) hT
  exact ⟨_, _, _, _, _, mcs_scal _, ⟨insL_len _ _ hC.1, insL_ok _ _ hC.2 f2⟩, hT', cb, f5, insert_fn c _ rfl h16 hC.2 (fdB X 128 (8 * i) 16) f2 _ rfl _ rfl⟩
def cr1 (y i K : Nat) (LL AA MM CC : List SV) : St :=
  ⟨[(2, .a (.s (.int .i64 y))), (7, .a (.s (.sl 2 0 128))), (8, .a (.s (.sl 3 0 K))), (9, .a (.s (.int .i64 i)))], [(0, some ⟨false, 1, LL⟩), (1, some ⟨false, 1, AA⟩), (2, some ⟨true, 1, MM⟩), (3, some ⟨true, 3, CC⟩)], [0]⟩
def cr2 (y i K : Nat) (LL AA CC : List SV) : St :=
  ⟨[(2, .a (.s (.int .i64 y))), (8, .a (.s (.sl 2 0 K))), (10, .a (.s (.int .i64 i)))], [(0, some ⟨false, 1, LL⟩), (1, some ⟨false, 1, AA⟩), (2, some ⟨true, 3, CC⟩)], [0]⟩
set_option maxHeartbeats 4000000 in
set_option maxRecDepth 100000 in
theorem recent17_fn (ls acs : List Int) (n p : Nat) (hn : ls.length = n) (hp : acs.length = p) (hn2 : n ≤ 9223372036854775807) (many : Int) :
    Fn Try.prog 5 [.s (.sl 0 0 n), .s (.sl 1 0 p), .s (.int .i64 many)] [⟨false, 1, isv .i64 ls⟩, ⟨false, 1, isv .i64 acs⟩] (· = ⟨.a (.s (.bool true)), [], []⟩) := by
  have hs1 := isv_scal .i64 ls
  have hs2 := isv_scal .i64 acs
  have cc := code17_fn ls n hn hn2
  have hxr := c17_lt ls 128
  have hxl := c17_len ls 128
  have hs3 := wsv_scal (c17 ls 128)
  have hbl := bl17 ls
  generalize hX : c17 ls 128 = X at *
  clear hX
  by_cases hg : many < 1 ∨ 16 < many ∨ 30 < p
  · generalize isv .i64 ls = LL at *
    generalize isv .i64 acs = AA at *
    clear cc hs3 hxr hxl hbl
    refine fn_of_vc mixed tys_ok _ _ Try.func5 (by kernel_rfl) rfl Try.ntmps5 (by rw [Try.results5]) rfl ?_; dsimp only [argTm, argHl, Nat.zero_add, Nat.reduceAdd, List.length_nil, List.length_cons]
    (repeat' ((conv => whnf); first | ((first | apply Br.mk | apply Gd.mk) <;> (intro hb; first | exact aK2 hb | (simp only [d1, d2, beq_iff_eq, bne_iff_ne, d3, d4, d5, d6, Int.not_lt, Int.not_le, ge_iff_le, gt_iff_lt, ne_eq, d7] at hb; first | (exfalso; omega) | skip) | skip))  |  (refine Eqs.mk _ (eqt_ok _ _ rfl _ _ _ rfl) ?_)  |  (refine vcall_pure (awake17_fn) rfl ?_) | ((with_reducible apply Vl.mk (α := Nat)); · exact aNt) | (with_reducible apply sd_draw; · kernel_rfl) | (apply Sd.mk; · exact aSd) | ((with_reducible apply Vl.mk (α := Int)); · exact aAr) | ((with_reducible first | apply Vl.mk (α := Bool) | apply Vl.mk (α := Nat) | apply Vl.mk (α := ByteArray) | apply Ge.mk (α := Row) | apply Ge.mk (α := SV) | apply Ge.mk (α := AV)); · exact rfl) | (refine And.intro rfl ?_) | ((with_reducible first | apply Vl.mk (α := List SV) | apply Vl.mk (α := Ef) | apply Vl.mk (α := TV) | apply Ge.mk (α := List SV) | apply Sg.mk | apply Sk.mk); · exact aCl) | ((first | apply Br.mk | apply Gd.mk) <;> (intro hb; first | exact aKl hb | (simp only [d1, d2, beq_iff_eq, bne_iff_ne, d3, d4, d5, d6, Int.not_lt, Int.not_le, ge_iff_le, gt_iff_lt, ne_eq, d7] at hb; first | (exfalso; omega) | skip) | skip)) | (apply Sd.mk; · exact aS2))); (all_goals (try (conv => whnf)))
    all_goals first | ((apply Fin.mk (m := [(0, some 0), (1, some 1)]); (focus exact rfl); (all_goals ((try (show HlS _ _ [] _)); first | (exact aFi) | exact rfl))); done) | (exfalso; omega) | trace_state
  obtain ⟨y, hy⟩ : ∃ y : Nat, many = (y : Int) := ⟨many.toNat, by omega⟩
  subst hy
  have cm := made_fn X hxr hxl acs p hp (by omega)
  obtain ⟨hk1, hk2⟩ := madeL_ok X hxr acs p
  have hs4 := bks_scal (madeL X acs p)
  generalize madeL X acs p = C0 at *
  generalize isv .i64 ls = LL at *
  generalize isv .i64 acs = AA at *
  generalize hMM : wsv X = MM at *
  obtain ⟨V0, hV0⟩ : ∃ V0, bks C0 = V0 := ⟨_, rfl⟩
  obtain ⟨K0, hK0⟩ : ∃ K0, C0.length = K0 := ⟨_, rfl⟩
  rw [hV0, hK0] at cm
  rw [hV0] at hs4
  refine fn_of_vc mixed tys_ok _ _ Try.func5 (by kernel_rfl) rfl Try.ntmps5 (by rw [Try.results5]) rfl ?_; dsimp only [argTm, argHl, Nat.zero_add, Nat.reduceAdd, List.length_nil, List.length_cons]
  (repeat' ((conv => whnf); first | ((first | apply Br.mk | apply Gd.mk) <;> (intro hb; first | exact aK2 hb | (simp only [d1, d2, beq_iff_eq, bne_iff_ne, d3, d4, d5, d6, Int.not_lt, Int.not_le, ge_iff_le, gt_iff_lt, ne_eq, d7] at hb; first | (exfalso; omega) | skip) | skip))  |  (refine Eqs.mk _ (eqt_ok _ _ rfl _ _ _ rfl) ?_)  |  (refine vcall_det (cc) [⟨_, 0⟩] [(_, _)] rfl ⟨rfl, trivial⟩ ⟨rfl, rowM_ro (by assumption), trivial⟩ ⟨rfl, up_ok rfl⟩ ?_)  |  (refine vcall_det (cm) [⟨_, 0⟩, ⟨_, 0⟩] [(_, _), (_, _)] rfl ⟨rfl, rfl, trivial⟩ ⟨rfl, rowM_ro (by assumption), rfl, rowM_ro (by assumption), trivial⟩ ⟨rfl, up_ok rfl⟩ ?_) | ((with_reducible apply Vl.mk (α := Nat)); · exact aNt) | (with_reducible apply sd_draw; · kernel_rfl) | (apply Sd.mk; · exact aSd) | ((with_reducible apply Vl.mk (α := Int)); · exact aAr) | ((with_reducible first | apply Vl.mk (α := Bool) | apply Vl.mk (α := Nat) | apply Vl.mk (α := ByteArray) | apply Ge.mk (α := Row) | apply Ge.mk (α := SV) | apply Ge.mk (α := AV)); · exact rfl) | (refine And.intro rfl ?_) | ((with_reducible first | apply Vl.mk (α := List SV) | apply Vl.mk (α := Ef) | apply Vl.mk (α := TV) | apply Ge.mk (α := List SV) | apply Sg.mk | apply Sk.mk); · exact aCl) | ((first | apply Br.mk | apply Gd.mk) <;> (intro hb; first | exact aKl hb | (simp only [d1, d2, beq_iff_eq, bne_iff_ne, d3, d4, d5, d6, Int.not_lt, Int.not_le, ge_iff_le, gt_iff_lt, ne_eq, d7] at hb; first | (exfalso; omega) | skip) | skip)) | (apply Sd.mk; · exact aS2))); (all_goals (try (conv => whnf)))
  refine Lp.inv (fun mm σ => ∃ (i : Nat) (c : List Bk), mm + i = y ∧ CI c ∧ TP17 c i ∧ σ = cr1 y i c.length LL AA MM (bks c)) ?_ ?_
  · refine ⟨y, cr1 y 0 K0 LL AA MM V0, ?_, 0, C0, by omega, ⟨hk1, hk2⟩, fun j h => by omega, by rw [hK0, hV0]⟩
    (apply wk_of (m := [(0, some 0), (1, some 1), (2, some _), (3, some _)]); (focus ((repeat' (first | exact tml_nil | apply tml_cons)); all_goals (exact aFi))); (focus ((show HlS _ _ [] _); (exact aFi))); (focus (first | exact rfl | rfl | kernel_rfl)))
  clear hV0 hs4 hK0 cm
  rintro mm σ ⟨i, c, hmi, hC, hT, rfl⟩
  unfold cr1
  have h2 := bks_scal c
  by_cases hi : i < y
  · have q2 : IntKind.i64.wrap ((i : Int) + 1) = ((i + 1 : Nat) : Int) := by rw [wi64 (by omega) (by omega)]; omega
    have q3 : IntKind.i64.wrap (8 * (i : Int)) = ((8 * i : Nat) : Int) := by rw [wi64 (by omega) (by omega)]; omega
    have q4 : IntKind.u32.wrap ((8 * i : Nat) : Int) = ((8 * i : Nat) : Int) := wu32 (by omega) (by omega)
    obtain ⟨b, C2, BN, BA, MV, sm, hC', hT', cb, f5, ci⟩ := ins_rec X hxl hxr hbl c i (by omega) hC hT
    have s3 := bks_scal C2
    rw [hMM] at cb
    clear hbl hk1 hk2
    generalize hV2 : bks C2 = V2 at *
    generalize bks c = V1 at *
    generalize c.length = K1 at *
    obtain ⟨K2, hK2⟩ : ∃ K2, C2.length = K2 := ⟨_, rfl⟩
    rw [hK2] at ci
    obtain ⟨bA, bL, bl_⟩ := b
    dsimp only [Bk.C] at *
    (repeat' ((conv => whnf); first | ((with_reducible apply Vl.mk (α := Int)); · with_reducible first | exact q2 | exact q3 | exact q4)  |  (apply Sd.mk; · first | omega | (show (0 : Int) ≤ i ∧ (i : Int) < y; omega))  |  (refine vcall_det (cb) [⟨_, 0⟩] [(_, _)] rfl ⟨rfl, trivial⟩ ⟨rfl, rowM_ro (by assumption), trivial⟩ ⟨rfl, up_ok rfl⟩ ?_)  |  (refine vcall_det (f5) [⟨_, 0⟩] [(_, _)] rfl ⟨rfl, trivial⟩ ⟨rfl, rowM_ro (by assumption), trivial⟩ ⟨rfl, up_ok rfl⟩ ?_)  |  (refine vcall_det (ci) [⟨_, 0⟩] [(_, _)] rfl ⟨rfl, trivial⟩ ⟨rfl, rowM_ro (by assumption), trivial⟩ ⟨rfl, up_ok rfl⟩ ?_) | ((with_reducible apply Vl.mk (α := Nat)); · exact aNt) | (with_reducible apply sd_draw; · kernel_rfl) | (apply Sd.mk; · exact aSd) | ((with_reducible apply Vl.mk (α := Int)); · exact aAr) | ((with_reducible first | apply Vl.mk (α := Bool) | apply Vl.mk (α := Nat) | apply Vl.mk (α := ByteArray) | apply Ge.mk (α := Row) | apply Ge.mk (α := SV) | apply Ge.mk (α := AV)); · exact rfl) | (refine And.intro rfl ?_) | ((with_reducible first | apply Vl.mk (α := List SV) | apply Vl.mk (α := Ef) | apply Vl.mk (α := TV) | apply Ge.mk (α := List SV) | apply Sg.mk | apply Sk.mk); · exact aCl) | ((first | apply Br.mk | apply Gd.mk) <;> (intro hb; first | exact aKl hb | (simp only [d1, d2, beq_iff_eq, bne_iff_ne, d3, d4, d5, d6, Int.not_lt, Int.not_le, ge_iff_le, gt_iff_lt, ne_eq, d7] at hb; first | (exfalso; omega) | skip) | skip)) | (apply Sd.mk; · exact aS2))); (all_goals (try (conv => whnf)))
    all_goals first
      | (refine ⟨mm - 1, cr1 y (i + 1) K2 LL AA MM V2, by omega, ?_, i + 1, C2, by omega, hC', hT', by rw [hV2, hK2]; rfl⟩
         (apply wk_of (m := [(0, some 0), (1, some 1), (2, some _), (3, some _)]); (focus ((repeat' (first | exact tml_nil | apply tml_cons)); all_goals (exact aFi))); (focus ((show HlS _ _ [] _); (exact aFi))); (focus (first | exact rfl | rfl | kernel_rfl))))
      | trace_state
  obtain rfl : i = y := by omega
  have hM : TM17 c i := fun j hj => by obtain ⟨k, e, _, h3, h4⟩ := hT j hj; exact ⟨e, List.mem_of_getElem? h3, h4⟩
  clear hT hbl hk1 hk2
  obtain ⟨V1, hV1⟩ : ∃ V1, bks c = V1 := ⟨_, rfl⟩
  obtain ⟨K1, hK1⟩ : ∃ K1, c.length = K1 := ⟨_, rfl⟩
  rw [hV1] at h2
  rw [hV1, hK1]
  (repeat' ((conv => whnf); first | ((with_reducible apply Vl.mk (α := Nat)); · exact aNt) | (with_reducible apply sd_draw; · kernel_rfl) | (apply Sd.mk; · exact aSd) | ((with_reducible apply Vl.mk (α := Int)); · exact aAr) | ((with_reducible first | apply Vl.mk (α := Bool) | apply Vl.mk (α := Nat) | apply Vl.mk (α := ByteArray) | apply Ge.mk (α := Row) | apply Ge.mk (α := SV) | apply Ge.mk (α := AV)); · exact rfl) | (refine And.intro rfl ?_) | ((with_reducible first | apply Vl.mk (α := List SV) | apply Vl.mk (α := Ef) | apply Vl.mk (α := TV) | apply Ge.mk (α := List SV) | apply Sg.mk | apply Sk.mk); · exact aCl) | ((first | apply Br.mk | apply Gd.mk) <;> (intro hb; first | exact aKl hb | (simp only [d1, d2, beq_iff_eq, bne_iff_ne, d3, d4, d5, d6, Int.not_lt, Int.not_le, ge_iff_le, gt_iff_lt, ne_eq, d7] at hb; first | (exfalso; omega) | skip) | skip)) | (apply Sd.mk; · exact aS2))); (all_goals (try (conv => whnf)))
  refine Lp.inv (fun mm σ => ∃ (j : Nat) (c : List Bk), mm + j = i ∧ CI c ∧ TM17 c i ∧ σ = cr2 i j c.length LL AA (bks c)) ?_ ?_
  · refine ⟨i, cr2 i 0 K1 LL AA V1, ?_, 0, c, by omega, hC, hM, by rw [hK1, hV1]⟩
    (apply wk_of (m := [(0, some 0), (1, some 1), (2, some 3)]); (focus ((repeat' (first | exact tml_nil | apply tml_cons)); all_goals (exact aFi))); (focus ((show HlS _ _ [] _); (exact aFi))); (focus (first | exact rfl | rfl | kernel_rfl)))
  clear hC hM hV1 hK1 h2 hmi c
  rintro mm σ ⟨j, c, hmi, hC, hM, rfl⟩
  unfold cr2
  have h2 := bks_scal c
  by_cases hj : j < i
  · have q2 : IntKind.i64.wrap ((j : Int) + 1) = ((j + 1 : Nat) : Int) := by rw [wi64 (by omega) (by omega)]; omega
    have q3 : IntKind.i64.wrap (8 * (j : Int)) = ((8 * j : Nat) : Int) := by rw [wi64 (by omega) (by omega)]; omega
    have q4 : IntKind.u32.wrap ((8 * j : Nat) : Int) = ((8 * j : Nat) : Int) := wu32 (by omega) (by omega)
    obtain ⟨C2, b, hC', hl2, hM', hbA, cf⟩ := find_rec c i j hC hM hj
    have s3 := bks_scal C2
    clear hC hM
    generalize hV2 : bks C2 = V2 at *
    generalize bks c = V1 at *
    generalize c.length = K1 at *
    obtain ⟨bA, bL, bl_⟩ := b
    dsimp only [Bk.C] at *
    subst hbA
    generalize mzs bl_ = M at *
    generalize bl_.length = NL at *
    (repeat' ((conv => whnf); first | ((first | apply Br.mk | apply Gd.mk) <;> (intro hb; first | exact aK2 hb | (simp only [d1, d2, beq_iff_eq, bne_iff_ne, d3, d4, d5, d6, Int.not_lt, Int.not_le, ge_iff_le, gt_iff_lt, ne_eq, d7] at hb; first | (exfalso; omega) | skip) | skip))  |  (refine Eqs.mk _ (eqt_ok _ _ rfl _ _ _ rfl) ?_)  |  ((with_reducible apply Vl.mk (α := Int)); · with_reducible first | exact q2 | exact q3 | exact q4)  |  (apply Sd.mk; · first | omega | (show (0 : Int) ≤ j ∧ (j : Int) < i; omega))  |  (refine vcall_det (cf) [⟨_, 0⟩] [(_, _)] rfl ⟨rfl, trivial⟩ ⟨rfl, rowM_ro (by assumption), trivial⟩ ⟨rfl, up_ok rfl⟩ ?_) | ((with_reducible apply Vl.mk (α := Nat)); · exact aNt) | (with_reducible apply sd_draw; · kernel_rfl) | (apply Sd.mk; · exact aSd) | ((with_reducible apply Vl.mk (α := Int)); · exact aAr) | ((with_reducible first | apply Vl.mk (α := Bool) | apply Vl.mk (α := Nat) | apply Vl.mk (α := ByteArray) | apply Ge.mk (α := Row) | apply Ge.mk (α := SV) | apply Ge.mk (α := AV)); · exact rfl) | (refine And.intro rfl ?_) | ((with_reducible first | apply Vl.mk (α := List SV) | apply Vl.mk (α := Ef) | apply Vl.mk (α := TV) | apply Ge.mk (α := List SV) | apply Sg.mk | apply Sk.mk); · exact aCl) | ((first | apply Br.mk | apply Gd.mk) <;> (intro hb; first | exact aKl hb | (simp only [d1, d2, beq_iff_eq, bne_iff_ne, d3, d4, d5, d6, Int.not_lt, Int.not_le, ge_iff_le, gt_iff_lt, ne_eq, d7] at hb; first | (exfalso; omega) | skip) | skip)) | (apply Sd.mk; · exact aS2))); (all_goals (try (conv => whnf)))
    all_goals first
      | (refine ⟨mm - 1, cr2 i (j + 1) K1 LL AA V2, by omega, ?_, j + 1, C2, by omega, hC', hM', by rw [hV2, hl2]; rfl⟩
         (apply wk_of (m := [(0, some 0), (1, some 1), (2, some _)]); (focus ((repeat' (first | exact tml_nil | apply tml_cons)); all_goals (exact aFi))); (focus ((show HlS _ _ [] _); (exact aFi))); (focus (first | exact rfl | rfl | kernel_rfl))))
      | trace_state
  generalize bks c = V1 at *
  generalize c.length = K1 at *
  (repeat' ((conv => whnf); first | (refine vcall_pure (awake17_fn) rfl ?_) | ((with_reducible apply Vl.mk (α := Nat)); · exact aNt) | (with_reducible apply sd_draw; · kernel_rfl) | (apply Sd.mk; · exact aSd) | ((with_reducible apply Vl.mk (α := Int)); · exact aAr) | ((with_reducible first | apply Vl.mk (α := Bool) | apply Vl.mk (α := Nat) | apply Vl.mk (α := ByteArray) | apply Ge.mk (α := Row) | apply Ge.mk (α := SV) | apply Ge.mk (α := AV)); · exact rfl) | (refine And.intro rfl ?_) | ((with_reducible first | apply Vl.mk (α := List SV) | apply Vl.mk (α := Ef) | apply Vl.mk (α := TV) | apply Ge.mk (α := List SV) | apply Sg.mk | apply Sk.mk); · exact aCl) | ((first | apply Br.mk | apply Gd.mk) <;> (intro hb; first | exact aKl hb | (simp only [d1, d2, beq_iff_eq, bne_iff_ne, d3, d4, d5, d6, Int.not_lt, Int.not_le, ge_iff_le, gt_iff_lt, ne_eq, d7] at hb; first | (exfalso; omega) | skip) | skip)) | (apply Sd.mk; · exact aS2))); (all_goals (try (conv => whnf)))
  all_goals first | (apply Fin.mk (m := [(0, some 0), (1, some 1)]); (focus exact rfl); (all_goals ((try (show HlS _ _ [] _)); first | (exact aFi) | exact rfl))) | trace_state
end Go.Proofs.Ytcaddlighhiepaa
