/- Calls and functions, reckoned: what a run of a function finds is its contract. -/
import Derived.Test.YtffhbadeoadbkaaRunC
namespace Go.Proofs.Ytffhbadeoadbkaa
open Go Go.RowKit
set_option linter.unusedSimpArgs false
set_option linter.unusedVariables false

noncomputable def nmS : SV → List Nat
  | .ptr i _ => [i]
  | .sl i _ _ => [i]
  | .fn _ cap => cap.map (·.1)
  | _ => []
noncomputable def nmC (l : List SV) : List Nat := List.rec [] (fun s _ ih => nmS s ++ ih) l
noncomputable def nmA : AV → List Nat
  | .s x => nmS x
  | .agg l => nmC l
noncomputable def nmAs (l : List AV) : List Nat := List.rec [] (fun s _ ih => nmA s ++ ih) l
/-- The names that can be reached. -/
noncomputable def gather (fuel : Nat) (hp : Hp) : List Nat → List Nat → Option (List Nat) :=
  Nat.rec (fun _ _ => none) (fun _ ih q acc => match q with
    | [] => some acc
    | n :: q => match memB n acc with
      | true => ih q acc
      | false => match hp n with
        | none => ih q acc
        | some r => ih (nmC r.cells ++ q) (acc ++ [n])) fuel
noncomputable def posL (L : List Nat) (n : Nat) : Nat → Option Nat := List.rec (fun _ => none) (fun m _ ih i => match Nat.beq n m with
  | true => some i
  | false => ih (i + 1)) L
theorem posL_ok {n j : Nat} : ∀ {L : List Nat} {i : Nat}, posL L n i = some j → ∃ d, j = i + d ∧ L[d]? = some n
  | [], i, h => by cases h
  | m :: L, i, h => by
    change (match Nat.beq n m with | true => some i | false => posL L n (i + 1)) = some j at h
    split at h
    · rename_i hb
      injection h with h
      exact ⟨0, by omega, by rw [Nat.eq_of_beq_eq_true hb]; rfl⟩
    · obtain ⟨d, h1, h2⟩ := posL_ok h
      exact ⟨d + 1, by omega, by simpa using h2⟩
noncomputable def inCap (L : List Nat) : List (Nat × Nat) → Option (List (Nat × Nat))
  | [] => some []
  | p :: l => match posL L p.1 0 with
    | some i => (match inCap L l with
      | some r => some ((i, p.2) :: r)
      | none => none)
    | none => none
noncomputable def inS (L : List Nat) (s : SV) : Option SV := match s with
  | .ptr n o => (match posL L n 0 with | some i => some (.ptr i o) | none => none)
  | .sl n o k => (match posL L n 0 with | some i => some (.sl i o k) | none => none)
  | .fn f cap => (match inCap L cap with | some c => some (.fn f c) | none => none)
  | s => some s
noncomputable def outS (L : List Nat) (s : SV) : SV := match inS L s with
  | some t => t
  | none => .unk
noncomputable def inCs (L : List Nat) (l : List SV) : Option (List SV) := List.rec (some []) (fun s _ ih => match inS L s with
  | some t => (match ih with
    | some r => some (t :: r)
    | none => none)
  | none => none) l
noncomputable def outCs (L : List Nat) (l : List SV) : List SV := List.rec [] (fun s _ ih => outS L s :: ih) l
noncomputable def inA (L : List Nat) : AV → Option AV
  | .s x => (match inS L x with | some t => some (.s t) | none => none)
  | .agg l => (match inCs L l with | some t => some (.agg t) | none => none)
noncomputable def outA (L : List Nat) : AV → AV
  | .s x => .s (outS L x)
  | .agg l => .agg (outCs L l)
noncomputable def inAs (L : List Nat) (l : List AV) : Option (List AV) := List.rec (some []) (fun s _ ih => match inA L s with
  | some t => (match ih with
    | some r => some (t :: r)
    | none => none)
  | none => none) l
noncomputable def outAs (L : List Nat) (l : List AV) : List AV := List.rec [] (fun s _ ih => outA L s :: ih) l
noncomputable def idx : Nat → List Nat → Rn
  | _, [] => []
  | i, n :: L => (i, some n) :: idx (i + 1) L
theorem look_idx : ∀ (L : List Nat) (i j : Nat), look (idx i L) j = if i ≤ j then (L[j - i]?).map some else none
  | [], i, j => by show none = _; split <;> simp
  | n :: L, i, j => by
    show look ((i, some n) :: idx (i + 1) L) j = _
    rw [look_cons, look_idx L]
    by_cases h : j = i
    · subst h; simp
    · rw [if_neg h]
      by_cases h2 : i ≤ j
      · rw [if_pos (by omega), if_pos h2, show j - i = (j - (i + 1)) + 1 by omega]; rfl
      · rw [if_neg (by omega), if_neg h2]
theorem look_pos {L : List Nat} {n j : Nat} (h : posL L n 0 = some j) : look (idx 0 L) j = some (some n) := by
  obtain ⟨d, h1, h2⟩ := posL_ok h
  rw [look_idx, if_pos (Nat.zero_le _), show j - 0 = d by omega, h2]; rfl
theorem cap_len {L : List Nat} : ∀ {cap c : List (Nat × Nat)}, inCap L cap = some c → c.length = cap.length ∧ ∀ (j : Nat) (p : Nat × Nat), c[j]? = some p → ∃ n, posL L n 0 = some p.1 ∧ cap[j]? = some (n, p.2)
  | [], c, h => by injection h with h; subst h; exact ⟨rfl, fun j p h => by simp at h⟩
  | q :: cap, c, h => by
    unfold inCap at h
    split at h
    · rename_i i hi
      split at h
      · rename_i r hr
        injection h with h; subst h
        obtain ⟨h1, h2⟩ := cap_len hr
        refine ⟨by simp [h1], fun j p hp => ?_⟩
        cases j with
        | zero => injection hp with hp; subst hp; exact ⟨q.1, hi, rfl⟩
        | succ j => exact h2 j p hp
      · cases h
    · cases h
theorem svm_in {L : List Nat} {s t : SV} (h : inS L s = some t) : SVm (idx 0 L) s t := by
  unfold inS at h
  split at h
  · split at h
    · rename_i i hi; injection h with h; subst h; exact ⟨_, look_pos hi, rfl⟩
    · cases h
  · split at h
    · rename_i i hi; injection h with h; subst h; exact .inl ⟨_, look_pos hi, rfl⟩
    · cases h
  · split at h
    · rename_i c hc
      injection h with h; subst h
      obtain ⟨h1, h2⟩ := cap_len hc
      exact ⟨_, rfl, h1.symm, fun j p hp => by obtain ⟨n, h3, h4⟩ := h2 j p hp; exact ⟨n, look_pos h3, h4⟩⟩
    · cases h
  · rename_i h1 h2 h3
    injection h with h; subst h
    cases s <;> first | trivial | rfl | exact absurd rfl (h1 _ _) | exact absurd rfl (h2 _ _ _) | exact absurd rfl (h3 _ _)
theorem svm_out (L : List Nat) (s : SV) : SVm (idx 0 L) s (outS L s) := by
  unfold outS
  split
  · rename_i t ht; exact svm_in ht
  · exact trivial
theorem svsm_out (L : List Nat) : ∀ l : List SV, SVsM (idx 0 L) l (outCs L l)
  | [] => .nil
  | s :: l => .cons (svm_out L s) (svsm_out L l)
theorem avm_out (L : List Nat) : ∀ x : AV, AVm (idx 0 L) x (outA L x)
  | .s x => svm_out L x
  | .agg l => svsm_out L l
theorem avsm_out (L : List Nat) : ∀ l : List AV, AVsM (idx 0 L) l (outAs L l)
  | [] => trivial
  | x :: l => ⟨avm_out L x, avsm_out L l⟩
theorem mkRes_out (L : List Nat) (l : List AV) : TVm (idx 0 L) (mkRes l) (mkRes (outAs L l)) := by
  rcases l with _ | ⟨x, _ | ⟨y, l⟩⟩
  · exact ⟨[], rfl, trivial⟩
  · exact ⟨x, rfl, avm_out L x⟩
  · exact ⟨_, rfl, avsm_out L (x :: y :: l)⟩
/-- Only names below a number. -/
noncomputable def cloS (k : Nat) : SV → Prop
  | .ptr i _ => i < k
  | .sl i _ _ => i < k
  | .fn _ cap => ∀ p ∈ cap, p.1 < k
  | _ => True
noncomputable def Clo (H : List Row) : Prop := ∀ r ∈ H, ∀ s ∈ r.cells, cloS H.length s
theorem pos_lt {L : List Nat} {n j : Nat} (h : posL L n 0 = some j) : j < L.length := by
  obtain ⟨d, h1, h2⟩ := posL_ok h
  have := (List.getElem?_eq_some_iff.1 h2).1
  omega
theorem clo_in {L : List Nat} {s t : SV} (h : inS L s = some t) : cloS L.length t := by
  unfold inS at h
  split at h
  · split at h
    · rename_i i hi; injection h with h; subst h; exact pos_lt hi
    · cases h
  · split at h
    · rename_i i hi; injection h with h; subst h; exact pos_lt hi
    · cases h
  · split at h
    · rename_i c hc
      injection h with h; subst h
      obtain ⟨h1, h2⟩ := cap_len hc
      intro p hp
      obtain ⟨j, hj⟩ := List.getElem?_of_mem hp
      obtain ⟨n, h3, _⟩ := h2 j p hj
      exact pos_lt h3
    · cases h
  · rename_i h1 h2 h3
    injection h with h; subst h
    cases s <;> first | trivial | exact absurd rfl (h1 _ _) | exact absurd rfl (h2 _ _ _) | exact absurd rfl (h3 _ _)
noncomputable def ems (L : List Nat) : List Em := L.map fun n => ⟨n, 0⟩
theorem ren_pos {L : List Nat} {n j k n0 : Nat} (h : posL L n 0 = some j) : renN (ems L) k n0 j = ⟨n, 0⟩ := by
  obtain ⟨d, h1, h2⟩ := posL_ok h
  refine renN_lt ?_
  rw [show j = d by omega]
  unfold ems
  rw [List.getElem?_map, h2]; rfl
theorem ren_in {L : List Nat} {s t : SV} {k n0 : Nat} (h : inS L s = some t) : renS (ems L) k n0 t = s := by
  unfold inS at h
  split at h
  · split at h
    · rename_i i hi; injection h with h; subst h; simp only [renS, ren_pos hi, Nat.zero_add]
    · cases h
  · split at h
    · rename_i i hi; injection h with h; subst h; simp only [renS, ren_pos hi, Nat.zero_add]
    · cases h
  · split at h
    · rename_i c hc
      injection h with h; subst h
      obtain ⟨h1, h2⟩ := cap_len hc
      simp only [renS]
      congr 1
      apply List.ext_getElem?
      intro j
      rw [List.getElem?_map]
      cases e : c[j]? with
      | none =>
        have : c.length ≤ j := List.getElem?_eq_none_iff.1 e
        rw [List.getElem?_eq_none (by omega)]; rfl
      | some p =>
        obtain ⟨n, h3, h4⟩ := h2 j p e
        rw [h4]
        simp only [Option.map_some, ren_pos h3, Nat.zero_add]
    · cases h
  · rename_i h1 h2 h3
    injection h with h; subst h
    cases s <;> first | rfl | exact absurd rfl (h1 _ _) | exact absurd rfl (h2 _ _ _) | exact absurd rfl (h3 _ _)
theorem inCs_ok {L : List Nat} : ∀ {l t : List SV}, inCs L l = some t → t.length = l.length ∧ (∀ (q : Nat) s, t[q]? = some s → ∃ c, l[q]? = some c ∧ inS L c = some s)
  | [], t, h => by injection h with h; subst h; exact ⟨rfl, fun q s h => by simp at h⟩
  | s :: l, t, h => by
    change (match inS L s with | some t => (match inCs L l with | some r => some (t :: r) | none => none) | none => none) = some t at h
    split at h
    · rename_i x hx
      split at h
      · rename_i r hr
        injection h with h; subst h
        obtain ⟨h1, h2⟩ := inCs_ok hr
        refine ⟨by simp [h1], fun q u hq => ?_⟩
        cases q with
        | zero => injection hq with hq; subst hq; exact ⟨s, rfl, hx⟩
        | succ q => exact h2 q u hq
      · cases h
    · cases h
theorem renC_in {L : List Nat} {k n0 : Nat} {l t : List SV} (h : inCs L l = some t) : t.map (renS (ems L) k n0) = l := by
  obtain ⟨h1, h2⟩ := inCs_ok h
  apply List.ext_getElem?
  intro q
  rw [List.getElem?_map]
  cases e : t[q]? with
  | none =>
    have : t.length ≤ q := List.getElem?_eq_none_iff.1 e
    rw [List.getElem?_eq_none (by omega)]; rfl
  | some s =>
    obtain ⟨c, h3, h4⟩ := h2 q s e
    rw [h3, Option.map_some, ren_in h4]
theorem renA_in {L : List Nat} {k n0 : Nat} {x t : AV} (h : inA L x = some t) : renA (ems L) k n0 t = x := by
  unfold inA at h
  split at h
  · split at h
    · rename_i y hy; injection h with h; subst h; simp only [renA, ren_in hy]
    · cases h
  · split at h
    · rename_i y hy; injection h with h; subst h; simp only [renA, renC_in hy]
    · cases h
theorem renAs_in {L : List Nat} {k n0 : Nat} : ∀ {l t : List AV}, inAs L l = some t → t.map (renA (ems L) k n0) = l
  | [], t, h => by injection h with h; subst h; rfl
  | x :: l, t, h => by
    change (match inA L x with | some t => (match inAs L l with | some r => some (t :: r) | none => none) | none => none) = some t at h
    split at h
    · rename_i y hy
      split at h
      · rename_i r hr
        injection h with h; subst h
        rw [List.map_cons, renA_in hy, renAs_in hr]
      · cases h
    · cases h
/-- The rows of names, by the callee's names; and as the caller has them. -/
noncomputable def inRows (L : List Nat) (hp : Hp) (l : List Nat) : Option (List Row) := List.rec (some []) (fun n _ ih => okO (hp n) fun r => okO (inCs L r.cells) fun c => okO ih fun t => some (⟨r.own, r.es, c⟩ :: t)) l
noncomputable def rowsOf (hp : Hp) (l : List Nat) : Option (List (Nat × Row)) := List.rec (some []) (fun n _ ih => okO (hp n) fun r => okO ih fun t => some ((n, r) :: t)) l
noncomputable def nodB (L : List Nat) : Bool := List.rec true (fun n l ih => match memB n l with
  | true => false
  | false => ih) L
theorem nodB_ok : ∀ {L : List Nat}, nodB L = true → ∀ (a b n : Nat), L[a]? = some n → L[b]? = some n → a = b
  | [], _, a, b, n, h, _ => by simp at h
  | m :: L, h, a, b, n, ha, hb => by
    change (match memB m L with | true => false | false => nodB L) = true at h
    split at h
    · cases h
    · rename_i hm
      have hm := memB_ok hm
      cases a with
      | zero =>
        cases b with
        | zero => rfl
        | succ b =>
          injection ha with ha; subst ha
          exact absurd (List.mem_of_getElem? (by simpa using hb)) hm
      | succ a =>
        cases b with
        | zero =>
          injection hb with hb; subst hb
          exact absurd (List.mem_of_getElem? (by simpa using ha)) hm
        | succ b => rw [nodB_ok h a b n (by simpa using ha) (by simpa using hb)]
noncomputable def upLt (k : Nat) (u : List (Nat × Option Row)) : Bool := List.rec true (fun p _ ih => match Nat.blt p.1 k with
  | true => ih
  | false => false) u
theorem upLt_ok {k : Nat} : ∀ {u : List (Nat × Option Row)}, upLt k u = true → ∀ p ∈ u, p.1 < k
  | [], _, p, h => by cases h
  | q :: u, h, p, hp => by
    change (match Nat.blt q.1 k with | true => upLt k u | false => false) = true at h
    split at h
    · rename_i hb
      rcases List.mem_cons.1 hp with rfl | hp
      · simpa using hb
      · exact upLt_ok h p hp
    · cases h
theorem inRows_ok {L : List Nat} {hp : Hp} {k n0 : Nat} {mm : List Em} (hnod : ∀ (a b n : Nat), L[a]? = some n → L[b]? = some n → a = b) (hmm : mm = ems L) : ∀ {l : List Nat} {H : List Row} {fp : List (Nat × Row)} (i : Nat), inRows L hp l = some H → rowsOf hp l = some fp → (∀ j, l[j]? = L[i + j]?) →
    fpOk hp fp ∧ RowsM mm k n0 i (ems l) H fp ∧ H.length = l.length ∧ ∀ r ∈ H, ∀ s ∈ r.cells, cloS L.length s
  | [], H, fp, i, h1, h2, _ => by
    injection h1 with h1; injection h2 with h2; subst h1 h2
    exact ⟨trivial, trivial, rfl, fun r h => by cases h⟩
  | n :: l, H, fp, i, h1, h2, hl => by
    change (okO (hp n) fun r => okO (inCs L r.cells) fun c => okO (inRows L hp l) fun t => some (⟨r.own, r.es, c⟩ :: t)) = some H at h1
    change (okO (hp n) fun r => okO (rowsOf hp l) fun t => some ((n, r) :: t)) = some fp at h2
    obtain ⟨r, g1, g2⟩ := okO_some h1
    obtain ⟨c, g3, g4⟩ := okO_some g2
    obtain ⟨t, g5, g6⟩ := okO_some g4
    injection g6 with g6; subst g6
    obtain ⟨r', q1, q2⟩ := okO_some h2
    rw [g1] at q1; injection q1 with q1; subst q1
    obtain ⟨t', q3, q4⟩ := okO_some q2
    injection q4 with q4; subst q4
    obtain ⟨k1, k2, k3, k4⟩ := inRows_ok (k := k) (n0 := n0) hnod hmm (i + 1) g5 q3 (fun j => by have := hl (j + 1); rw [List.getElem?_cons_succ] at this; rw [this]; congr 1; omega)
    obtain ⟨c1, c2⟩ := inCs_ok g3
    refine ⟨⟨g1, k1⟩, ⟨rfl, ⟨rfl, fun q s hq => ?_, by simp [c1], fun ho => ⟨ho, rfl, c1.symm, fun j f hj hne => ?_⟩⟩, k2⟩, by simp [k3], ?_⟩
    · obtain ⟨x, p1, p2⟩ := c2 q s hq
      simp only [Nat.zero_add]
      rw [p1, hmm, ren_in p2]
    · rw [hmm] at hj
      unfold ems at hj
      rw [List.getElem?_map] at hj
      cases e : L[j]? with
      | none => rw [e] at hj; cases hj
      | some n' =>
        rw [e] at hj
        injection hj with hj; subst hj
        have h0 := hl 0
        rw [Nat.add_zero] at h0
        intro (e2 : n' = n)
        subst e2
        exact hne (hnod j i n' e (by rw [← h0]; rfl))
    · intro r' hr'
      rcases List.mem_cons.1 hr' with rfl | hr'
      · intro s hs
        obtain ⟨q, hq⟩ := List.getElem?_of_mem hs
        obtain ⟨x, p1, p2⟩ := c2 q s hq
        exact clo_in p2
      · exact k4 r' hr'
noncomputable def callR (run : FuncId → List AV → List Row → Option Res) (f : FuncId) (l : List AV) (hp : Hp) (n0 : Nat) : Option (List (Nat × Row) × Ef) :=
  okO (gather 100000 hp (nmAs l) []) fun L => okB (nodB L) (okO (inAs L l) fun args => okO (inRows L hp L) fun H => okO (run f args H) fun R =>
    okB (Nat.ble R.nw.length stride && upLt H.length R.up) (okO (rowsOf hp L) fun fp => some (fp, R.ef (ems L) H.length n0)))
theorem callR_ok {P : Program} {run : FuncId → List AV → List Row → Option Res} (hrun : ∀ f args H R, Clo H → run f args H = some R → Fn P f args H (· = R)) (det : Bool) (f : FuncId) (l : List AV) (hp : Hp) (n0 : Nat) (fp : List (Nat × Row)) (e : Ef)
    (h : callR run f l hp n0 = some (fp, e)) (K' : KK) (hK : K' fp e) : vCall P det f l hp n0 K' := by
  obtain ⟨L, h1, h2⟩ := okO_some h
  obtain ⟨g2, h3⟩ := okB_some h2
  obtain ⟨args, h4, h5⟩ := okO_some h3
  obtain ⟨H, h6, h7⟩ := okO_some h5
  obtain ⟨R, h8, h9⟩ := okO_some h7
  obtain ⟨g9, h10⟩ := okB_some h9
  obtain ⟨fp', h11, h12⟩ := okO_some h10
  injection h12 with h12; injection h12 with h12 h13
  subst h12 h13
  rw [Bool.and_eq_true] at g9
  obtain ⟨k1, k2, k3, k4⟩ := inRows_ok (k := H.length) (n0 := n0) (nodB_ok g2) rfl 0 h6 h11 (fun j => by rw [Nat.zero_add])
  have hF := hrun f args H R (by unfold Clo; rw [k3]; exact k4) h8
  exact vcall_det hF (ems L) fp' (renAs_in h4).symm k1 k2 ⟨g9.1, upLt_ok g9.2⟩ ⟨_, rfl, hK⟩
end Go.Proofs.Ytffhbadeoadbkaa
