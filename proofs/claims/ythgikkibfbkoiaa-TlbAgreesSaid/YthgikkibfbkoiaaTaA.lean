/- TlbAgrees: what holds of buffers, in plain words. -/
import Derived.Test.YthgikkibfbkoiaaTlbM
namespace Go.Proofs.Ythgikkibfbkoiaa
open Go Go.RowKit
set_option linter.unusedSimpArgs false
set_option linter.unusedVariables false

theorem and_m (w m : Nat) (hm : m < 32) : w &&& m = (w % 32) &&& m := by
  have h := Nat.and_two_pow_sub_one_eq_mod w 5
  have h2 := Nat.and_two_pow_sub_one_eq_mod m 5
  rw [show (2 ^ 5 - 1 : Nat) = 31 from rfl, show (2 ^ 5 : Nat) = 32 from rfl] at h h2
  rw [← h, Nat.and_assoc, Nat.and_comm 31 m, h2, Nat.mod_eq_of_lt hm]
theorem or_m (w m : Nat) (hm : m < 32) : (w ||| m) % 32 = (w % 32) ||| m := by
  have h := Nat.or_mod_two_pow (a := w) (b := m) (n := 5)
  rw [show (2 ^ 5 : Nat) = 32 from rfl, Nat.mod_eq_of_lt hm] at h
  exact h
theorem or_abs (w m : Nat) (h : w &&& m = m) : w ||| m = w := by
  have h2 : w ||| (w &&& m) = w := by
    apply Nat.eq_of_testBit_eq
    intro i
    rw [Nat.testBit_or, Nat.testBit_and]
    cases w.testBit i <;> simp
  rw [h] at h2
  exact h2
theorem v32 {P : Nat → Prop} [DecidablePred P] (w : Nat) (h : ∀ v, v < 32 → P v) : P (w % 32) := h _ (Nat.mod_lt _ (by decide))
/-- An entry that agrees permits what it says, and its bits are set. -/
theorem hitW (w : Nat) (a b : Bool) (ac : Int) (hac : ac = 1 ∨ ac = 2 ∨ ac = 3) (h : w &&& needW a b = needW a b) (hp : tpmV a b ac = true) : pmW w ac = true ∧ tchW w ac = w := by
  have hn : needW a b < 32 := by cases a <;> cases b <;> decide
  rw [and_m w _ hn] at h
  have h8 : w &&& 8 = 8 := by
    rw [and_m w 8 (by decide)]
    revert h
    cases a <;> cases b <;> exact v32 (P := fun v => v &&& needW _ _ = needW _ _ → v &&& 8 = 8) w (by decide)
  have h1 : w &&& 1 ≠ 0 := by
    rw [and_m w 1 (by decide)]
    revert h
    cases a <;> cases b <;> exact v32 (P := fun v => v &&& needW _ _ = needW _ _ → v &&& 1 ≠ 0) w (by decide)
  unfold pmW tchW
  rw [decide_eq_true_eq]
  rcases hac with rfl | rfl | rfl
  · have hb : b = true := hp
    subst hb
    have h4 : w &&& 4 ≠ 0 := by
      rw [and_m w 4 (by decide)]
      revert h
      cases a <;> exact v32 (P := fun v => v &&& needW _ _ = needW _ _ → v &&& 4 ≠ 0) w (by decide)
    exact ⟨⟨h1, (fun h => by cases h), fun _ => h4⟩, by rw [if_neg (by decide)]; exact or_abs _ _ h8⟩
  · exact ⟨⟨h1, (fun h => by cases h), (fun h => by cases h)⟩, by rw [if_neg (by decide)]; exact or_abs _ _ h8⟩
  · have ha : a = true := hp
    subst ha
    have h2 : w &&& 2 ≠ 0 := by
      rw [and_m w 2 (by decide)]
      revert h
      cases b <;> exact v32 (P := fun v => v &&& needW _ _ = needW _ _ → v &&& 2 ≠ 0) w (by decide)
    have h16 : w &&& 16 = 16 := by
      rw [and_m w 16 (by decide)]
      revert h
      cases b <;> exact v32 (P := fun v => v &&& needW _ _ = needW _ _ → v &&& 16 = 16) w (by decide)
    exact ⟨⟨h1, (fun _ => h2), (fun h => by cases h)⟩, by rw [if_pos rfl, or_abs _ _ h8]; exact or_abs _ _ h16⟩
/-- A fresh entry agrees with what was written. -/
theorem freshW (w : Nat) (ac : Int) (h : pmW w ac = true) : tchW w ac &&& needW ((((tchW w ac &&& 2 : Nat) : Int) != 0) && (((tchW w ac &&& 16 : Nat) : Int) != 0)) (((tchW w ac &&& 4 : Nat) : Int) != 0) = needW ((((tchW w ac &&& 2 : Nat) : Int) != 0) && (((tchW w ac &&& 16 : Nat) : Int) != 0)) (((tchW w ac &&& 4 : Nat) : Int) != 0) := by
  have h1 : tchW w ac &&& 1 ≠ 0 := by
    unfold pmW at h
    rw [decide_eq_true_eq] at h
    have h1 := h.1
    rw [and_m w 1 (by decide)] at h1
    unfold tchW
    split
    · rw [and_m _ 1 (by decide), or_m _ 16 (by decide), or_m _ 8 (by decide)]
      revert h1
      exact v32 (P := fun v => v &&& 1 ≠ 0 → ((v ||| 8) ||| 16) &&& 1 ≠ 0) w (by decide)
    · rw [and_m _ 1 (by decide), or_m _ 8 (by decide)]
      revert h1
      exact v32 (P := fun v => v &&& 1 ≠ 0 → (v ||| 8) &&& 1 ≠ 0) w (by decide)
  have h8 : tchW w ac &&& 8 ≠ 0 := by
    unfold tchW
    split
    · rw [and_m _ 8 (by decide), or_m _ 16 (by decide), or_m _ 8 (by decide)]
      exact v32 (P := fun v => ((v ||| 8) ||| 16) &&& 8 ≠ 0) w (by decide)
    · rw [and_m _ 8 (by decide), or_m _ 8 (by decide)]
      exact v32 (P := fun v => (v ||| 8) &&& 8 ≠ 0) w (by decide)
  generalize tchW w ac = z at *
  rw [and_m z 1 (by decide)] at h1
  rw [and_m z 8 (by decide)] at h8
  have hn : ∀ a b, needW a b < 32 := fun a b => by cases a <;> cases b <;> decide
  rw [and_m z _ (hn _ _), and_m z 2 (by decide), and_m z 16 (by decide), and_m z 4 (by decide)]
  revert h1 h8
  exact v32 (P := fun v => v &&& 1 ≠ 0 → v &&& 8 ≠ 0 → v &&& needW ((((v &&& 2 : Nat) : Int) != 0) && (((v &&& 16 : Nat) : Int) != 0)) (((v &&& 4 : Nat) : Int) != 0) = needW ((((v &&& 2 : Nat) : Int) != 0) && (((v &&& 16 : Nat) : Int) != 0)) (((v &&& 4 : Nat) : Int) != 0)) z (by decide)
theorem hasP_iff (pg : Nat) : ∀ l : List Te, hasP pg l = true ↔ ∃ e ∈ l, e.p = pg
  | [] => ⟨fun h => (by cases h), fun ⟨e, h, _⟩ => (by cases h)⟩
  | e :: l => by
    show (decide (e.p = pg) || hasP pg l) = true ↔ _
    rw [Bool.or_eq_true, decide_eq_true_eq, hasP_iff pg l]
    constructor
    · rintro (h | ⟨x, hx, h⟩)
      · exact ⟨e, List.mem_cons_self, h⟩
      · exact ⟨x, List.mem_cons_of_mem _ hx, h⟩
    · rintro ⟨x, hx, h⟩
      rcases List.mem_cons.1 hx with rfl | hx
      · exact .inl h
      · exact .inr ⟨x, hx, h⟩
theorem cohL_iff (xs : List Nat) (n r : Nat) : ∀ (l pre : List Te), cohL xs n r pre l = true ↔ (∀ e ∈ l, agrB e xs n r = true) ∧ (∀ e ∈ l, ∀ q ∈ pre, q.p ≠ e.p) ∧ (l.map (·.p)).Nodup
  | [], pre => ⟨fun _ => ⟨fun e h => (by cases h), fun e h => (by cases h), List.nodup_nil⟩, fun _ => rfl⟩
  | e :: l, pre => by
    show ((agrB e xs n r && !hasP e.p pre) && cohL xs n r (pre ++ [e]) l) = true ↔ _
    rw [Bool.and_eq_true, Bool.and_eq_true, cohL_iff xs n r l (pre ++ [e]), List.map_cons, List.nodup_cons, Bool.not_eq_true', ← Bool.not_eq_true, hasP_iff]
    constructor
    · rintro ⟨⟨h1, h2⟩, h3, h4, h5⟩
      refine ⟨fun x hx => ?_, fun x hx q hq => ?_, fun hm => ?_, h5⟩
      · rcases List.mem_cons.1 hx with rfl | hx
        · exact h1
        · exact h3 x hx
      · rcases List.mem_cons.1 hx with rfl | hx
        · exact fun h => h2 ⟨q, hq, h⟩
        · exact h4 x hx q (List.mem_append.2 (.inl hq))
      · obtain ⟨x, hx, he⟩ := List.mem_map.1 hm
        exact h4 x hx e (List.mem_append.2 (.inr (List.mem_singleton.2 rfl))) he.symm
    · rintro ⟨h1, h2, h3, h4⟩
      refine ⟨⟨h1 e List.mem_cons_self, fun ⟨q, hq, h⟩ => h2 e List.mem_cons_self q hq h⟩, fun x hx => h1 x (List.mem_cons_of_mem _ hx), fun x hx q hq h => ?_, h4⟩
      rcases List.mem_append.1 hq with hq | hq
      · exact h2 x (List.mem_cons_of_mem _ hx) q hq h
      · rw [List.mem_singleton] at hq
        subst hq
        exact h3 (List.mem_map.2 ⟨x, hx, h.symm⟩)
theorem cohB_iff (t : List Te) (xs : List Nat) (n r : Nat) : cohB t xs n r = true ↔ t.length ≤ 8 ∧ (∀ e ∈ t, agrB e xs n r = true) ∧ (t.map (·.p)).Nodup := by
  unfold cohB
  rw [Bool.and_eq_true, decide_eq_true_eq, cohL_iff]
  exact ⟨fun ⟨h, h1, _, h3⟩ => ⟨h, h1, h3⟩, fun ⟨h, h1, h3⟩ => ⟨h, h1, fun e he q hq => (by cases hq), h3⟩⟩
theorem keepT_sub (pg : Nat) : ∀ (t R : List Te), ∃ S, keepT pg t R = R ++ S ∧ S.Sublist (t.filter fun e => decide (e.p ≠ pg))
  | [], R => ⟨[], (List.append_nil R).symm, List.Sublist.refl _⟩
  | e :: l, R => by
    unfold keepT
    by_cases h : e.p ≠ pg
    · rw [List.filter_cons_of_pos (by rw [decide_eq_true_eq]; exact h)]
      split
      · obtain ⟨S, h1, h2⟩ := keepT_sub pg l (R ++ [e])
        exact ⟨e :: S, by rw [h1, List.append_assoc]; rfl, h2.cons_cons e⟩
      · obtain ⟨S, h1, h2⟩ := keepT_sub pg l R
        exact ⟨S, h1, h2.cons e⟩
    · rw [List.filter_cons_of_neg (by rw [decide_eq_true_eq]; exact h), if_neg (fun h2 => h h2.1)]
      exact keepT_sub pg l R
theorem coh_fill (t : List Te) (xs : List Nat) (n r va : Nat) (ac : Int) (hX : XB xs n) (hlen : mpg n * 32 ≤ n) (hc : cohB t xs n r = true) : cohB (fillT t xs n r va ac) (fillX xs n r va ac) n r = true := by
  unfold fillT fillX
  split
  · rename_i hw
    rw [cohB_iff] at hc ⊢
    obtain ⟨h8, hag, hnd⟩ := hc
    have hw2 := hw
    unfold wlkOk at hw2
    simp only [Bool.and_eq_true, decide_eq_true_eq] at hw2
    obtain ⟨⟨⟨⟨h0, h1⟩, h2⟩, h3⟩, h4⟩ := hw2
    obtain ⟨S, hS, hsub⟩ := keepT_sub (va / 128) t [frsh (va / 128) (frW (wlkP xs r va)) (tchW (wlkP xs r va) ac)]
    refine ⟨keepT_len _ _ _ (by show 1 ≤ 8; omega), ?_, ?_⟩
    · rw [hS]
      intro e he
      rcases List.mem_append.1 he with he | he
      · rw [List.mem_singleton] at he
        subst he
        unfold agrB agrW frsh
        simp only [Bool.and_eq_true, decide_eq_true_eq]
        rw [getD_set _ _ _ _ (by rw [hX.1]; omega), if_pos rfl]
        refine ⟨⟨⟨⟨by omega, h2⟩, h4⟩, ?_⟩, frW_tch _ _⟩
        exact freshW _ _ h3
      · have hm := hsub.subset he
        rw [List.mem_filter, decide_eq_true_eq] at hm
        have ha := hag e hm.1
        unfold agrB agrW at ha ⊢
        rw [getD_set _ _ _ _ (by rw [hX.1]; omega), if_neg (by have := hm.2; omega)]
        exact ha
    · rw [hS, List.map_append, List.map_singleton, List.singleton_append, List.nodup_cons]
      refine ⟨fun hm => ?_, ?_⟩
      · obtain ⟨x, hx, he⟩ := List.mem_map.1 hm
        have hm := hsub.subset hx
        rw [List.mem_filter, decide_eq_true_eq] at hm
        exact hm.2 he
      · exact ((hsub.trans List.filter_sublist).map _).nodup hnd
  · exact hc
theorem coh_hit (t : List Te) (xs : List Nat) (n r va : Nat) (ac : Int) (i : Nat) (e : Te) (he : t[i]? = some e) (hep : e.p = va / 128) (hac : ac = 1 ∨ ac = 2 ∨ ac = 3) (hva : va < 4096) (hp : tpmV e.w e.x ac = true) (hc : cohB t xs n r = true) :
    cohB (frontT t i e) xs n r = true ∧ wlkOk xs n r va ac = true ∧ frW (wlkP xs r va) = e.f ∧ tchW (wlkP xs r va) ac = wlkP xs r va := by
  rw [cohB_iff] at hc ⊢
  obtain ⟨h8, hag, hnd⟩ := hc
  have ha := hag e (List.mem_of_getElem? he)
  unfold agrB agrW at ha
  simp only [Bool.and_eq_true, decide_eq_true_eq] at ha
  obtain ⟨⟨⟨⟨a1, a2⟩, a3⟩, a4⟩, a5⟩ := ha
  rw [hep] at a4 a5
  have hh := hitW _ _ _ ac hac a4 hp
  refine ⟨⟨by rw [front_len t i e he]; exact h8, fun x hx => hag x ((front_mem t i e he x).1 hx), ?_⟩, ?_, a5, hh.2⟩
  · have hperm : (frontT t i e).Perm t := by
      have h1 : t = t.take i ++ e :: t.drop (i + 1) := by
        conv => lhs; rw [← List.take_append_drop i t]
        rw [drop_cons t i e he]
      unfold frontT
      conv => rhs; rw [h1]
      exact List.perm_middle.symm
    exact (hperm.map _).nodup_iff.2 hnd
  · unfold wlkOk
    simp only [Bool.and_eq_true, decide_eq_true_eq]
    refine ⟨⟨⟨⟨?_, hva⟩, a2⟩, hh.1⟩, by unfold wlkP; rw [a5]; exact a3⟩
    unfold knoB
    rw [decide_eq_true_eq]
    omega
end Go.Proofs.Ythgikkibfbkoiaa
