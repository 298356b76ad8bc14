/- The plain part of TlbRecent: what a buffer keeps. -/
import Derived.Test.YthgikkibfbkoiaaTlbD
import Derived.Test.YthgikkibfbkoiaaMkA
namespace Go.Proofs.Ythgikkibfbkoiaa
open Go Go.RowKit
set_option linter.unusedSimpArgs false
set_option linter.unusedVariables false

theorem awake14_run : runF eqt tys true fns noCt 1000 20 6 [] [] = some ⟨.a (.s (.bool true)), [], []⟩ := by kernel_rfl
theorem awake14_fn : Fn Try.prog 6 [] [] (· = ⟨.a (.s (.bool true)), [], []⟩) := run_fn awake14_run
def zer : Nat → List Nat
  | 0 => []
  | n + 1 => 0 :: zer n
theorem zer_len : ∀ n, (zer n).length = n
  | 0 => rfl
  | n + 1 => by show (zer n).length + 1 = _; rw [zer_len n]
theorem zer_get : ∀ (n j : Nat), (zer n).getD j 0 = 0
  | 0, j => rfl
  | n + 1, 0 => rfl
  | n + 1, j + 1 => by show (zer n).getD j 0 = 0; exact zer_get n j
theorem new2_run : runF eqt tys true fns noCt 1000 20 22 [.s (.int .i64 2)] [] = some ⟨.a (.s (.sl 0 0 64)), [], [⟨true, 1, wsv (zer 64)⟩]⟩ := by kernel_rfl
theorem new2_fn : Fn Try.prog 22 [.s (.int .i64 2)] [] (· = ⟨.a (.s (.sl 0 0 64)), [], [⟨true, 1, wsv (zer 64)⟩]⟩) := run_fn new2_run
theorem wsv_set5 (y : List Nat) (a w : Nat) (ha : a < y.length) : setAll (wsv y) (0 + ((a : Nat) : Int).toNat * ty24.size) [.int .u32 (w : Nat)] = wsv (y.set a w) := by
  have e : 0 + ((a : Nat) : Int).toNat * ty24.size = a := by show 0 + ((a : Nat) : Int).toNat * 1 = a; omega
  rw [e]
  apply List.ext_getElem?
  intro i
  rw [setAll_get _ _ _ _ (by simp; omega)]
  unfold wsv
  simp only [List.length_cons, List.length_nil, Nat.zero_add]
  by_cases h : i = a
  · subst h
    rw [if_pos (by omega), List.getElem?_map, List.getElem?_set_self (by omega)]
    simp
  · rw [if_neg (by omega), List.getElem?_map, List.getElem?_map, List.getElem?_set_ne (by omega)]
theorem wsv_len (xs : List Nat) : (wsv xs).length = xs.length := by unfold wsv; rw [List.length_map]
theorem mem_set {xs : List Nat} {a w y : Nat} (h : y ∈ xs.set a w) : y ∈ xs ∨ y = w := by
  exact List.mem_or_eq_of_mem_set h
theorem getD_set (xs : List Nat) (a w j : Nat) (ha : a < xs.length) : (xs.set a w).getD j 0 = if j = a then w else xs.getD j 0 := by
  rw [List.getD_eq_getElem?_getD, List.getD_eq_getElem?_getD, List.getElem?_set]
  by_cases h : a = j
  · rw [if_pos h, if_pos ha, if_pos h.symm]; rfl
  · rw [if_neg h, if_neg (fun e => h e.symm)]
/-- The memory of the law: the first j entries of the page table. -/
def rM : Nat → List Nat
  | 0 => zer 64
  | j + 1 => (rM j).set j 257
theorem rM_len : ∀ j, (rM j).length = 64
  | 0 => zer_len 64
  | j + 1 => by show ((rM j).set j 257).length = _; rw [List.length_set, rM_len j]
theorem rM_lt : ∀ j, ∀ y ∈ rM j, y < 4294967296
  | 0, y, h => by
    obtain ⟨i, hi, rfl⟩ := List.mem_iff_getElem.1 h
    have := zer_get 64 i
    rw [List.getD_eq_getElem?_getD] at this
    change (zer 64)[i]?.getD 0 = 0 at this
    have e : (zer 64)[i]? = some ((rM 0)[i]) := List.getElem?_eq_getElem hi
    rw [e] at this
    change (rM 0)[i] = 0 at this
    omega
  | j + 1, y, h => by
    rcases mem_set h with h | h
    · exact rM_lt j y h
    · omega
theorem rM_get : ∀ j, j ≤ 32 → ∀ p, p < j → (rM j).getD p 0 = 257
  | 0, _, p, h => by omega
  | j + 1, hj, p, h => by
    show ((rM j).set j 257).getD p 0 = _
    rw [getD_set _ _ _ _ (by rw [rM_len]; omega)]
    by_cases e : p = j
    · rw [if_pos e]
    · rw [if_neg e]; exact rM_get j (by omega) p (by omega)
def MI (xs : List Nat) : Prop := xs.length = 64 ∧ (∀ y ∈ xs, y < 4294967296) ∧ ∀ p, p < 32 → xs.getD p 0 = 257 ∨ xs.getD p 0 = 265
theorem rM_I : MI (rM 32) := ⟨rM_len 32, rM_lt 32, fun p hp => .inl (rM_get 32 (Nat.le_refl _) p hp)⟩
def TI (t : List Te) : Prop := t.length ≤ 8 ∧ ∀ e ∈ t, e.f = 1
theorem TI_nil : TI [] := ⟨by decide, fun e h => by cases h⟩
/-- Among the first k entries are the pages of the first i fills. -/
def TP (fi : Nat) (t : List Te) (k i : Nat) : Prop := ∀ j, j < i → ∃ (a : Nat) (e : Te), a < k ∧ t[a]? = some e ∧ e.p = (fi + j) % 32
theorem TP_zero (fi : Nat) (t : List Te) : TP fi t 0 0 := fun j h => by omega
def TM (fi : Nat) (t : List Te) (i : Nat) : Prop := ∀ j, j < i → ∃ e ∈ t, e.p = (fi + j) % 32
theorem TP_mem {fi : Nat} {t : List Te} {i : Nat} (h : TP fi t i i) : TM fi t i := fun j hj => by
  obtain ⟨a, e, _, he, hp⟩ := h j hj
  exact ⟨e, List.mem_of_getElem? he, hp⟩
theorem keepT_len (pg : Nat) : ∀ (t R : List Te), R.length ≤ 8 → (keepT pg t R).length ≤ 8
  | [], R, h => h
  | e :: l, R, h => by
    unfold keepT
    split
    · exact keepT_len pg l (R ++ [e]) (by simp; omega)
    · exact keepT_len pg l R h
theorem keepT_mem (pg : Nat) : ∀ (t R : List Te), ∀ e ∈ keepT pg t R, e ∈ R ∨ e ∈ t
  | [], R, e, h => .inl h
  | e' :: l, R, e, h => by
    unfold keepT at h
    split at h
    · rcases keepT_mem pg l (R ++ [e']) e h with h | h
      · rcases List.mem_append.1 h with h | h
        · exact .inl h
        · exact .inr (by simp only [List.mem_singleton] at h; subst h; exact List.mem_cons_self)
      · exact .inr (List.mem_cons_of_mem _ h)
    · rcases keepT_mem pg l R e h with h | h
      · exact .inl h
      · exact .inr (List.mem_cons_of_mem _ h)
theorem keepT_pre (pg : Nat) : ∀ (t R : List Te) (a : Nat) (e : Te), R[a]? = some e → (keepT pg t R)[a]? = some e
  | [], R, a, e, h => h
  | e' :: l, R, a, e, h => by
    unfold keepT
    split
    · exact keepT_pre pg l (R ++ [e']) a e (by rw [List.getElem?_append_left (List.getElem?_eq_some_iff.1 h).1]; exact h)
    · exact keepT_pre pg l R a e h
theorem keepT_at (pg : Nat) : ∀ (t R : List Te) (a : Nat) (e : Te), t[a]? = some e → e.p ≠ pg → R.length + a < 8 → ∃ b, b ≤ R.length + a ∧ (keepT pg t R)[b]? = some e
  | [], R, a, e, h, _, _ => by simp at h
  | e' :: l, R, 0, e, h, hp, hl => by
    injection h with h; subst h
    unfold keepT
    rw [if_pos ⟨hp, by omega⟩]
    exact ⟨R.length, by omega, keepT_pre pg l _ _ _ (by simp)⟩
  | e' :: l, R, a + 1, e, h, hp, hl => by
    have h' : l[a]? = some e := by simpa using h
    unfold keepT
    split
    · obtain ⟨b, hb, hk⟩ := keepT_at pg l (R ++ [e']) a e h' hp (by simp; omega)
      exact ⟨b, by simp at hb; omega, hk⟩
    · obtain ⟨b, hb, hk⟩ := keepT_at pg l R a e h' hp (by omega)
      exact ⟨b, by omega, hk⟩
theorem TP_fill (fi : Nat) (t t' : List Te) (i : Nat) (h : TP fi t i i) (hi : i < 8) (hk : t' = keepT ((fi + i) % 32) t [⟨(fi + i) % 32, 1, false, false⟩]) : TP fi t' (i + 1) (i + 1) := fun j hj => by
  subst hk
  by_cases hji : j = i
  · subst hji
    exact ⟨0, _, by omega, keepT_pre _ _ _ _ _ rfl, rfl⟩
  · obtain ⟨a, e, ha, he, hp⟩ := h j (by omega)
    obtain ⟨b, hb, hk⟩ := keepT_at ((fi + i) % 32) t [⟨(fi + i) % 32, 1, false, false⟩] a e he (by omega) (by show 1 + a < 8; omega)
    exact ⟨b, e, by change b ≤ 1 + a at hb; omega, hk, hp⟩
theorem mi_ok {xs : List Nat} {va : Nat} (hX : MI xs) (hva : va < 4096) : wlkOk xs 64 0 va 2 = true ∧ (wlkP xs 0 va = 257 ∨ wlkP xs 0 va = 265) ∧ MI (xs.set (0 * 32 + va / 128) (tchW (wlkP xs 0 va) 2)) := by
  have hp : wlkP xs 0 va = 257 ∨ wlkP xs 0 va = 265 := by unfold wlkP; exact hX.2.2 _ (by omega)
  have hw : tchW (wlkP xs 0 va) 2 = 265 := by rcases hp with h | h <;> rw [h] <;> decide
  refine ⟨?_, hp, ?_, ?_, ?_⟩
  · unfold wlkOk
    rcases hp with h | h <;> rw [h, decide_eq_true hva] <;> decide
  · rw [List.length_set]; exact hX.1
  · intro y hy
    rcases mem_set hy with h | h
    · exact hX.2.1 y h
    · rw [hw] at h; omega
  · intro p hp'
    rw [getD_set _ _ _ _ (by rw [hX.1]; omega), hw]
    split
    · exact .inr rfl
    · exact hX.2.2 p hp'
theorem fill_rec (t : List Te) (xs : List Nat) (va : Nat) (hT : TI t) (hX : MI xs) (hva : va < 4096) : ∃ (A B K' : Nat) (t' : List Te) (xs' : List Nat), t'.length = K' ∧ TI t' ∧ MI xs' ∧ B < 4294967296 ∧
    Fn Try.prog 13 [.s (.sl 0 0 t.length), .s (.sl 1 0 64), .s (.int .u32 (0 : Nat)), .s (.int .u32 va), .s (.int .i64 2)] [⟨false, 4, tes t⟩, ⟨false, 1, wsv xs⟩]
      (· = ⟨.tup [.agg [.int .u32 A, .int .u32 B, .int .i64 0], .s (.sl 2 0 K'), .s (.sl 3 0 64)], [], [⟨true, 4, tes t'⟩, ⟨true, 1, wsv xs'⟩]⟩) ∧
    t' = keepT (va / 128) t [⟨va / 128, 1, false, false⟩] := by
  obtain ⟨hw, hp, hX'⟩ := mi_ok hX hva
  have hfr : frsh (va / 128) (frW (wlkP xs 0 va)) (tchW (wlkP xs 0 va) 2) = ⟨va / 128, 1, false, false⟩ := by
    rcases hp with h | h <;> rw [h] <;> rfl
  have cf := tfill_ok t t.length rfl (by have := hT.1; omega) xs 64 0 va 2 hX.1 (by omega) hX.2.1 (by omega) (by omega) hw _ _ rfl rfl
  rw [hfr] at cf
  have hq := hw
  unfold wlkOk at hq
  simp only [Bool.and_eq_true, decide_eq_true_eq] at hq
  obtain ⟨⟨⟨⟨h0, h1⟩, h2⟩, h3⟩, h4⟩ := hq
  rw [wlkC_ok h0 h1 h2 h3 h4] at cf
  refine ⟨_, _, _, _, _, rfl, ⟨keepT_len _ _ _ (Nat.le_of_ble_eq_true rfl), fun e he => ?_⟩, hX', ?_, cf, rfl⟩
  · rcases keepT_mem _ _ _ _ he with h | h
    · simp only [List.mem_singleton] at h; subst h; rfl
    · exact hT.2 e h
  · unfold wlkE; omega
theorem idx_found (pg : Nat) : ∀ (t : List Te) (k : Nat), (∃ e ∈ t, e.p = pg) → ∃ (i : Nat) (e : Te), idxT pg t k = ((k + i : Nat) : Int) ∧ t[i]? = some e ∧ e.p = pg
  | [], k, h => by obtain ⟨e, h, _⟩ := h; cases h
  | e :: l, k, h => by
    unfold idxT
    by_cases hp : e.p = pg
    · rw [if_pos hp]; exact ⟨0, e, rfl, rfl, hp⟩
    · rw [if_neg hp]
      obtain ⟨i, e', h1, h2, h3⟩ := idx_found pg l (k + 1) (by
        obtain ⟨e', h, hp'⟩ := h
        rcases List.mem_cons.1 h with h | h
        · subst h; exact absurd hp' hp
        · exact ⟨e', h, hp'⟩)
      exact ⟨i + 1, e', by rw [h1, Nat.add_assoc, Nat.add_comm 1 i], by simpa using h2, h3⟩
theorem front_mem (t : List Te) (i : Nat) (e : Te) (he : t[i]? = some e) : ∀ x, x ∈ frontT t i e ↔ x ∈ t := fun x => by
  have hlt := (List.getElem?_eq_some_iff.1 he).1
  have hs : t = t.take i ++ e :: t.drop (i + 1) := by
    conv => lhs; rw [← List.take_append_drop i t]
    rw [List.drop_eq_getElem_cons hlt, (List.getElem?_eq_some_iff.1 he).2]
  unfold frontT
  conv => rhs; rw [hs]
  simp only [List.mem_cons, List.mem_append]
  constructor
  · rintro (h | h | h)
    · exact .inr (.inl h)
    · exact .inl h
    · exact .inr (.inr h)
  · rintro (h | h | h)
    · exact .inr (.inl h)
    · exact .inl h
    · exact .inr (.inr h)
theorem front_len (t : List Te) (i : Nat) (e : Te) (he : t[i]? = some e) : (frontT t i e).length = t.length := by
  have hlt := (List.getElem?_eq_some_iff.1 he).1
  unfold frontT
  simp only [List.length_cons, List.length_append, List.length_take, List.length_drop]
  omega
theorem look_rec (fi : Nat) (t : List Te) (i j : Nat) (hT : TI t) (hM : TM fi t i) (hj : j < i) : ∃ t' : List Te, (TI t' ∧ t'.length = t.length) ∧ TM fi t' i ∧
    Fn Try.prog 10 [.s (.sl 0 0 t.length), .s (.int .u32 ((fi + j) % 32 : Nat)), .s (.int .i64 2)] [⟨false, 4, tes t⟩] (· = ⟨.tup [.s (.int .u32 (1 : Nat)), .s (.sl 1 0 t.length), .s (.bool true)], [], [⟨true, 4, tes t'⟩]⟩) := by
  obtain ⟨a, e, h1, h2, h3⟩ := idx_found ((fi + j) % 32) t 0 (hM j hj)
  rw [Nat.zero_add] at h1
  have hf : e.f = 1 := hT.2 e (List.mem_of_getElem? h2)
  have cl := lookup_hit t t.length rfl (by have := hT.1; omega) ((fi + j) % 32) 2 a e h2 h1 rfl
  rw [hf] at cl
  refine ⟨frontT t a e, ⟨⟨by rw [front_len t a e h2]; exact hT.1, fun x hx => hT.2 x ((front_mem t a e h2 x).1 hx)⟩, front_len t a e h2⟩, fun k hk => ?_, cl⟩
  obtain ⟨x, hx, hp⟩ := hM k hk
  exact ⟨x, (front_mem t a e h2 x).2 hx, hp⟩
end Go.Proofs.Ythgikkibfbkoiaa
