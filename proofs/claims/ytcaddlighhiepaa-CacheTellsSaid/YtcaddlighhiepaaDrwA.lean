/- The check of a region in any order, made so that the kernel reckons it fast. -/
import Derived.Test.YtcaddlighhiepaaAbsR
namespace Go.Proofs.Ytcaddlighhiepaa
open Go Go.RowKit
set_option linter.unusedSimpArgs false
set_option linter.unusedVariables false

noncomputable def fNb (n : Nat) (K : Nat → Bool) : Bool := Nat.rec (K 0) (fun m _ => K (Nat.succ m)) n
theorem fNb_eq (n : Nat) (K : Nat → Bool) : fNb n K = K n := by cases n <;> rfl
noncomputable def fLb (l : List Nat) : (List Nat → Bool) → Bool := List.rec (fun K => K []) (fun a _ ih K => fNb a fun a => ih fun l => K (a :: l)) l
theorem fLb_eq : ∀ (l : List Nat) (K : List Nat → Bool), fLb l K = K l
  | [], K => rfl
  | a :: l, K => by
    show fNb a (fun a => fLb l fun l => K (a :: l)) = _
    rw [fNb_eq, fLb_eq l]
structure Inf where
  (dst : Option Nat) (lk rd wr : List Nat)
noncomputable def fPb (l : List Inf) : (List Inf → Bool) → Bool := List.rec (fun K => K []) (fun a _ ih K => ih fun l => K (a :: l)) l
theorem fPb_eq : ∀ (l : List Inf) (K : List Inf → Bool), fPb l K = K l
  | [], K => rfl
  | a :: l, K => by
    show fPb l (fun l => K (a :: l)) = _
    rw [fPb_eq l]
noncomputable def disN (l m : List Nat) : Bool := List.rec true (fun x _ ih => match memB x m with
  | true => false
  | false => ih) l
theorem memB_iff (x : Nat) : ∀ m : List Nat, memB x m = true ↔ x ∈ m
  | [] => by simp [memB]
  | y :: m => by
    unfold memB
    cases hb : Nat.beq x y with
    | true => have := Nat.eq_of_beq_eq_true hb; subst this; simp
    | false =>
      have := Nat.ne_of_beq_eq_false hb
      rw [memB_iff x m]; simp [this]
theorem disN_ok : ∀ {l m : List Nat}, disN l m = true → disj l m = true
  | [], m, h => rfl
  | x :: l, m, h => by
    change (match memB x m with | true => false | false => disN l m) = true at h
    split at h
    · cases h
    · rename_i hb
      unfold disj
      rw [List.all_cons, Bool.and_eq_true]
      refine ⟨?_, disN_ok h⟩
      rw [List.all_eq_true]
      intro y hy
      cases hc : Nat.beq x y with
      | true => have := Nat.eq_of_beq_eq_true hc; subst this; exact absurd hy (memB_ok hb)
      | false => rfl
def notIn (d : Option Nat) (l : List Nat) : Bool := match d with
  | some d => !memB d l
  | none => true
def neD (d e : Option Nat) : Bool := match d, e with
  | some d, some e => !Nat.beq d e
  | _, _ => true
noncomputable def apI (x y : Inf) : Bool := notIn x.dst y.lk && neD x.dst y.dst && notIn y.dst x.lk && disN x.wr y.rd && disN y.wr x.rd
def infOf (arr : Array Oper) (o : Oper) (d : Did) : Inf := ⟨o.dst, o.looksAt arr, d.rd, d.wr⟩
theorem not_contains {d : Nat} {l : List Nat} (h : memB d l = false) : l.contains d = false := by
  cases e : l.contains d with
  | false => rfl
  | true => exact absurd (List.contains_iff_mem.1 e) (memB_ok h)
theorem apI_ok {arr : Array Oper} {x y : Oper} {d e : Did} (h : apI (infOf arr x d) (infOf arr y e) = true) : (x.apart arr y && disj d.wr e.rd && disj e.wr d.rd) = true := by
  unfold apI infOf at h
  simp only [Bool.and_eq_true] at h
  obtain ⟨⟨⟨⟨h1, h2⟩, h3⟩, h4⟩, h5⟩ := h
  rw [disN_ok h4, disN_ok h5, Bool.and_true, Bool.and_true]
  unfold Oper.apart
  rw [Bool.and_eq_true]
  constructor
  · cases hx : x.dst with
    | none => rfl
    | some a =>
      rw [hx] at h1 h2
      simp only [notIn, Bool.not_eq_true'] at h1
      simp only [Bool.and_eq_true]
      refine ⟨by rw [not_contains h1]; rfl, ?_⟩
      cases hy : y.dst with
      | none => rfl
      | some b =>
        rw [hy] at h2
        simp only [neD, Bool.not_eq_true'] at h2
        have := Nat.ne_of_beq_eq_false h2
        simp
        exact fun e => this e.symm
  · cases hy : y.dst with
    | none => rfl
    | some b =>
      rw [hy] at h3
      simp only [notIn, Bool.not_eq_true'] at h3
      show (!(x.looksAt arr).contains b) = true
      rw [not_contains h3]; rfl
noncomputable def chk (m : Nat) (cur : Inf) (l : List Inf) : Nat → Bool := List.rec (fun _ => true) (fun p _ ih i => match m.testBit i with
  | true => fNb (i + 1) ih
  | false => match apI p cur with
    | true => fNb (i + 1) ih
    | false => false) l
theorem chk_ok {m : Nat} {cur : Inf} : ∀ {l : List Inf} {s : Nat}, chk m cur l s = true → ∀ (i : Nat) p, l[i]? = some p → m.testBit (s + i) = true ∨ apI p cur = true
  | [], s, _, i, p, h => by simp at h
  | q :: l, s, h, i, p, hi => by
    change (match m.testBit s with | true => fNb (s + 1) (chk m cur l) | false => match apI q cur with | true => fNb (s + 1) (chk m cur l) | false => false) = true at h
    rw [fNb_eq] at h
    have next : chk m cur l (s + 1) = true := by
      split at h
      · exact h
      · split at h
        · exact h
        · cases h
    cases i with
    | zero =>
      injection hi with hi; subst hi
      split at h
      · rename_i hb; exact .inl hb
      · split at h
        · rename_i hb; exact .inr hb
        · cases h
    | succ i =>
      rw [show s + (i + 1) = s + 1 + i by omega]
      exact chk_ok next i p (by simpa using hi)
noncomputable def drawGo (arr : Array Oper) (l : List Oper) : List Did → List Nat → List Inf → Bool :=
  List.rec (fun _ _ _ => true) (fun o _ ih ds acc prev => match ds with
    | [] => false
    | d :: ds => fNb (maskOf o acc) fun m => fLb (o.looksAt arr) fun lk => fLb d.rd fun rd => fLb d.wr fun wr => match chk m ⟨o.dst, lk, rd, wr⟩ prev 0 with
      | true => fLb (acc ++ [m]) fun acc => fPb (prev ++ [⟨o.dst, lk, rd, wr⟩]) fun prev => ih ds acc prev
      | false => false) l
theorem preds_low : ∀ (l : List Oper) (acc : List Nat) (k : Nat), k < acc.length → (predsGo l acc).getD k 0 = acc.getD k 0
  | [], acc, k, _ => rfl
  | o :: l, acc, k, h => by
    show (predsGo l (acc ++ [maskOf o acc])).getD k 0 = _
    rw [preds_low l _ k (by simp; omega), List.getD_eq_getElem?_getD, List.getElem?_append_left h, ← List.getD_eq_getElem?_getD]
theorem drawGo_ok {arr : Array Oper} {all : List Oper} {dsA : List Did} (harr : arr = all.toArray) : ∀ (l : List Oper) (ds : List Did) (acc : List Nat) (prev : List Inf) (pre : List Oper) (dpre : List Did), drawGo arr l ds acc prev = true → all = pre ++ l → dsA = dpre ++ ds →
    acc.length = pre.length → dpre.length = pre.length → prev.length = pre.length → predsGo all [] = predsGo l acc → (∀ (i : Nat) p, prev[i]? = some p → ∃ o d, pre[i]? = some o ∧ dpre[i]? = some d ∧ p = infOf arr o d) →
    ∀ j, pre.length ≤ j → j < all.length → ∀ i, i < j → (((predsGo all []).getD j 0).testBit i || apartB all dsA i j) = true
  | [], ds, acc, prev, pre, dpre, _, h1, _, _, _, _, _, _, j, hj, hj2, i, hi => by subst h1; simp at hj2; omega
  | o :: l, ds, acc, prev, pre, dpre, hq, h1, h2, h3, h4, h5, h6, h7, j, hj, hj2, i, hi => by
    cases ds with
    | nil => cases hq
    | cons d ds =>
      change (fNb (maskOf o acc) fun m => fLb (o.looksAt arr) fun lk => fLb d.rd fun rd => fLb d.wr fun wr => match chk m ⟨o.dst, lk, rd, wr⟩ prev 0 with
        | true => fLb (acc ++ [m]) fun acc => fPb (prev ++ [⟨o.dst, lk, rd, wr⟩]) fun prev => drawGo arr l ds acc prev
        | false => false) = true at hq
      simp only [fNb_eq, fLb_eq, fPb_eq] at hq
      split at hq
      · rename_i hc
        by_cases hjp : j = pre.length
        · subst hjp
          have hm : (predsGo all []).getD pre.length 0 = maskOf o acc := by
            rw [h6]
            show (predsGo l (acc ++ [maskOf o acc])).getD pre.length 0 = _
            rw [preds_low l _ _ (by simp; omega), ← h3]
            simp [List.getD]
          obtain ⟨p, hp⟩ : ∃ p, prev[i]? = some p := ⟨_, List.getElem?_eq_getElem (by omega)⟩
          obtain ⟨o', d', q1, q2, rfl⟩ := h7 i p hp
          rw [hm, Bool.or_eq_true]
          rcases chk_ok hc i _ hp with h8 | h8
          · rw [Nat.zero_add] at h8; exact .inl h8
          · right
            unfold apartB
            have e1 : all[i]? = some o' := by rw [h1, List.getElem?_append_left hi]; exact q1
            have e2 : all[pre.length]? = some o := by rw [h1, List.getElem?_append_right (Nat.le_refl _)]; simp
            have e3 : dsA[i]? = some d' := by rw [h2, List.getElem?_append_left (by omega)]; exact q2
            have e4 : dsA[pre.length]? = some d := by rw [h2, ← h4, List.getElem?_append_right (Nat.le_refl _)]; simp
            rw [e1, e2, e3, e4]
            simp only []
            rw [← harr]
            exact apI_ok h8
        · refine drawGo_ok harr l ds _ _ (pre ++ [o]) (dpre ++ [d]) hq (by simp [h1]) (by simp [h2]) (by simp [h3]) (by simp [h4]) (by simp [h5]) h6 (fun i p hp => ?_) j (by simp; omega) hj2 i hi
          by_cases hip : i < prev.length
          · rw [List.getElem?_append_left hip] at hp
            obtain ⟨o', d', q1, q2, q3⟩ := h7 i p hp
            exact ⟨o', d', by rw [List.getElem?_append_left (by omega)]; exact q1, by rw [List.getElem?_append_left (by omega)]; exact q2, q3⟩
          · rw [List.getElem?_append_right (by omega)] at hp
            have : i = prev.length := by
              have := (List.getElem?_eq_some_iff.1 hp).1
              simp at this; omega
            subst this
            simp at hp
            exact ⟨o, d, by rw [h5, List.getElem?_append_right (Nat.le_refl _)]; simp, by rw [h5, ← h4, List.getElem?_append_right (Nat.le_refl _)]; simp, hp.symm⟩
      · cases hq
noncomputable def drawF (all : List Oper) (ds : List Did) : Bool := match edgesB all 0 with
  | true => drawGo all.toArray all ds [] []
  | false => false
theorem drawF_ok {all : List Oper} {ds : List Did} (h : drawF all ds = true) : drawB all ds = true := by
  unfold drawF at h
  split at h
  · rename_i he
    unfold drawB
    rw [he, Bool.true_and, List.all_eq_true]
    intro j hj
    rw [List.all_eq_true]
    intro i hi
    exact drawGo_ok rfl all ds [] [] [] [] h rfl rfl rfl rfl rfl rfl (fun i p hp => by simp at hp) j (Nat.zero_le _) (by simpa using hj) i (by simpa using hi)
  · cases h
end Go.Proofs.Ytcaddlighhiepaa
