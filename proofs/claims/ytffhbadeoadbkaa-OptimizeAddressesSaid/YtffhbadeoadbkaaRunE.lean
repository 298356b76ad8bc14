/- Functions, reckoned: a run is a contract. -/
import Derived.Test.YtffhbadeoadbkaaRunD
namespace Go.Proofs.Ytffhbadeoadbkaa
open Go Go.RowKit
set_option linter.unusedSimpArgs false
set_option linter.unusedVariables false
variable {α : Type}

noncomputable def dresV (T : Tys) (tm : Tm) (h : HE) (l : List ResultVar) : (List AV → Option α) → Option α :=
  List.rec (fun K => K []) (fun r _ ih K => match r with
    | .tmp t => (match tmR tm t with
      | .a x => ih fun r => K (x :: r)
      | _ => none)
    | .cell p ty => (match tmR tm p with
      | .a (.s (.ptr i k)) => okO (T ty) fun y => (match y.kind.agg with
        | false => okO (hpE h i) fun r => okO (r.cells[k]?) fun s => ih fun q => K (.s s :: q)
        | true => okO (hpE h i) fun r => dSeg r.cells k y.size fun c => ih fun q => K (.agg c :: q))
      | _ => none)) l
theorem dresV_ok {T : Tys} {tm : Tm} {h : HE} {σ : St} (h1 : tmG σ.tm = tmG tm) (h2 : hpG σ.h = hpE h) {x : α} : ∀ {l : List ResultVar} {K : List AV → Option α} {K' : List AV → Prop}, (∀ l, K l = some x → K' l) → dresV T tm h l K = some x → resV T σ l K'
  | [], K, K', hK, hq => hK _ hq
  | .tmp t :: l, K, K', hK, hq => by
    change (match tmR tm t with | .a x => dresV T tm h l fun r => K (x :: r) | _ => none) = some x at hq
    unfold resV
    rw [h1]
    rw [tmR_eq] at hq
    split at hq
    · rename_i y hy
      rw [hy]
      exact dresV_ok h1 h2 (fun l hl => hK _ hl) hq
    · cases hq
  | .cell p ty :: l, K, K', hK, hq => by
    change (match tmR tm p with
      | .a (.s (.ptr i k)) => okO (T ty) fun y => (match y.kind.agg with
        | false => okO (hpE h i) fun r => okO (r.cells[k]?) fun s => dresV T tm h l fun q => K (.s s :: q)
        | true => okO (hpE h i) fun r => dSeg r.cells k y.size fun c => dresV T tm h l fun q => K (.agg c :: q))
      | _ => none) = some x at hq
    unfold resV
    rw [h1]
    rw [tmR_eq] at hq
    split at hq
    · rename_i i k hy
      rw [hy]
      obtain ⟨y, g1, g2⟩ := okO_some hq
      simp only [g1]
      rw [h2]
      split at g2
      · rename_i ha
        rw [ha]
        obtain ⟨r, g3, g4⟩ := okO_some g2
        obtain ⟨s, g5, g6⟩ := okO_some g4
        exact ⟨r, g3, s, g5, dresV_ok h1 h2 (fun l hl => hK _ hl) g6⟩
      · rename_i ha
        rw [ha]
        obtain ⟨r, g3, g4⟩ := okO_some g2
        obtain ⟨c, g5, g6⟩ := dSeg_ok g4
        exact ⟨r, g3, c, g5, dresV_ok h1 h2 (fun l hl => hK _ hl) g6⟩
    · cases hq
/-- The argument rows that were touched. -/
noncomputable def upsR (h : HE) (H : List Row) : Nat → Option (List (Nat × Option Row)) := List.rec (fun _ => some []) (fun _ _ ih i => okO (lk h i) fun e => (match e.d with
  | true => okO (ih (i + 1)) fun l => some ((i, e.r) :: l)
  | false => ih (i + 1))) H
theorem upsR_ok {h : HE} {H0 : List Row} (hc : Cln H0 h) : ∀ {H : List Row} {i : Nat} {l : List (Nat × Option Row)}, upsR h H i = some l → ∀ n, i ≤ n → n < i + H.length →
    (∃ x, look l n = some x ∧ hpE h n = x) ∨ (look l n = none ∧ hpE h n = H0[n]?)
  | [], i, l, hq, n, h1, h2 => by simp at h2; omega
  | r :: H, i, l, hq, n, h1, h2 => by
    change (okO (lk h i) fun e => (match e.d with | true => okO (upsR h H (i + 1)) fun l => some ((i, e.r) :: l) | false => upsR h H (i + 1))) = some l at hq
    obtain ⟨e, g1, g2⟩ := okO_some hq
    have hlow : ∀ {H : List Row} {i : Nat} {l : List (Nat × Option Row)}, upsR h H i = some l → ∀ n, n < i → look l n = none := by
      intro H
      induction H with
      | nil => intro i l hq n hn; injection hq with hq; subst hq; rfl
      | cons r H ih =>
        intro i l hq n hn
        change (okO (lk h i) fun e => (match e.d with | true => okO (upsR h H (i + 1)) fun l => some ((i, e.r) :: l) | false => upsR h H (i + 1))) = some l at hq
        obtain ⟨e, g1, g2⟩ := okO_some hq
        split at g2
        · obtain ⟨l', g3, g4⟩ := okO_some g2
          injection g4 with g4; subst g4
          rw [look_cons, if_neg (by omega)]
          exact ih g3 n (by omega)
        · exact ih g2 n (by omega)
    have hat : hpE h i = e.r := by unfold hpE; rw [g1]
    split at g2
    · obtain ⟨l', g3, g4⟩ := okO_some g2
      injection g4 with g4; subst g4
      rw [look_cons]
      by_cases e1 : n = i
      · subst e1; rw [if_pos rfl]; exact .inl ⟨_, rfl, hat⟩
      · rw [if_neg e1]
        exact upsR_ok hc g3 n (by omega) (by simp at h2; omega)
    · rename_i hd
      by_cases e1 : n = i
      · subst e1
        refine .inr ⟨hlow g2 n (by omega), ?_⟩
        rw [hat]
        rw [lk_eq] at g1
        exact hc _ (look_mem g1) hd
      · exact upsR_ok hc g2 n (by omega) (by simp at h2; omega)
noncomputable def nmU (u : List (Nat × Option Row)) : List Nat := List.rec [] (fun p _ ih => (match p.2 with | some r => nmC r.cells | none => []) ++ ih) u
noncomputable def outRow (L : List Nat) (r : Row) : Row := ⟨r.own, r.es, outCs L r.cells⟩
noncomputable def outU (L : List Nat) (u : List (Nat × Option Row)) : List (Nat × Option Row) := List.rec [] (fun p _ ih => (p.1, match p.2 with | some r => some (outRow L r) | none => none) :: ih) u
theorem look_outU (L : List Nat) (n : Nat) : ∀ u : List (Nat × Option Row), look (outU L u) n = (look u n).map fun r => r.map (outRow L)
  | [] => rfl
  | p :: u => by
    obtain ⟨k, r⟩ := p
    show look ((k, match r with | some r => some (outRow L r) | none => none) :: outU L u) n = _
    rw [look_cons, look_cons, look_outU L n u]
    by_cases h : n = k
    · rw [if_pos h, if_pos h]; cases r <;> rfl
    · rw [if_neg h, if_neg h]
noncomputable def outNw (L : List Nat) (hp : Hp) (l : List Nat) : Option (List Row) := List.rec (some []) (fun n _ ih => okO (hp n) fun r => okO ih fun t => some (outRow L r :: t)) l
theorem outNw_ok {L : List Nat} {hp : Hp} : ∀ {l : List Nat} {t : List Row}, outNw L hp l = some t → t.length = l.length ∧ ∀ (j : Nat) r', t[j]? = some r' → ∃ n r, l[j]? = some n ∧ hp n = some r ∧ r' = outRow L r
  | [], t, h => by injection h with h; subst h; exact ⟨rfl, fun j r h => by simp at h⟩
  | n :: l, t, h => by
    change (okO (hp n) fun r => okO (outNw L hp l) fun t => some (outRow L r :: t)) = some t at h
    obtain ⟨r, h1, h2⟩ := okO_some h
    obtain ⟨t', h3, h4⟩ := okO_some h2
    injection h4 with h4; subst h4
    obtain ⟨h5, h6⟩ := outNw_ok h3
    refine ⟨by simp [h5], fun j r' hj => ?_⟩
    cases j with
    | zero => injection hj with hj; subst hj; exact ⟨n, r, rfl, h1, rfl⟩
    | succ j => exact h6 j r' hj
noncomputable def rng (i : Nat) (n : Nat) : List Nat := Nat.rec (fun _ => []) (fun _ ih i => i :: ih (i + 1)) n i
noncomputable def finR (h : HE) (H : List Row) (l : List AV) : Option Res :=
  okO (upsR h H 0) fun ups => okO (gather 100000 (hpE h) (nmAs l ++ nmU ups) (rng 0 H.length)) fun L => okO (outNw L (hpE h) (L.drop H.length)) fun nw =>
    okB (nodB L && idn (idx 0 L) H.length && upOk H (outU L ups) && nwOk nw && ltB (idx 0 L) (H.length + nw.length) && upLt H.length (outU L ups)) (some ⟨mkRes (outAs L l), outU L ups, nw⟩)
theorem hls_of {m : Rn} {hp : Hp} : ∀ {l : Hl} {s : List Nat}, (∀ n r', memB n s = false → hpG l n = some r' → RowMt m hp n r') → HlS m hp s l
  | [], _, _ => trivial
  | p :: l, s, h => by
    obtain ⟨k, x⟩ := p
    refine ⟨?_, hls_of fun n r' h1 h2 => h n r' ?_ ?_⟩
    · cases hb : memB k s with
      | true => exact trivial
      | false =>
        cases x with
        | none => exact trivial
        | some r => exact h k r hb (by rw [hpG_cons]; simp [Hp.set])
    · change (match Nat.beq n k with | true => true | false => memB n s) = false at h1
      split at h1
      · cases h1
      · exact h1
    · change (match Nat.beq n k with | true => true | false => memB n s) = false at h1
      split at h1
      · cases h1
      · rename_i hb
        rw [hpG_cons]
        unfold Hp.set
        rw [if_neg (Nat.ne_of_beq_eq_false hb)]
        exact h2
theorem mem_idx : ∀ {L : List Nat} {i : Nat} {p : Nat × Option Nat}, p ∈ idx i L → ∃ d n, p = (i + d, some n) ∧ L[d]? = some n
  | [], i, p, h => by cases h
  | n :: L, i, p, h => by
    change p ∈ (i, some n) :: idx (i + 1) L at h
    rcases List.mem_cons.1 h with rfl | h
    · exact ⟨0, n, rfl, rfl⟩
    · obtain ⟨d, n', h1, h2⟩ := mem_idx h
      exact ⟨d + 1, n', by rw [h1]; congr 1; omega, by simpa using h2⟩
theorem inj_idx {L : List Nat} (hnod : ∀ (a b n : Nat), L[a]? = some n → L[b]? = some n → a = b) {n c : Nat} (h : look (idx 0 L) n = some (some c)) : injB (idx 0 L) n c = true := by
  rw [look_idx, if_pos (Nat.zero_le _), Nat.sub_zero] at h
  have h : L[n]? = some c := by
    cases e : L[n]? with
    | none => rw [e] at h; cases h
    | some x => rw [e] at h; simpa using h
  unfold injB
  rw [List.all_eq_true]
  intro p hp
  obtain ⟨d, x, rfl, h2⟩ := mem_idx hp
  simp only [Nat.zero_add, Bool.or_eq_true, Bool.not_eq_true']
  cases hb : Nat.beq x c with
  | false => exact .inr rfl
  | true =>
    have := Nat.eq_of_beq_eq_true hb
    subst this
    left
    rw [hnod d n x h2 h, Nat.beq_refl]
theorem svm_clo {L : List Nat} {k : Nat} (hid : idn (idx 0 L) k = true) {s : SV} (h : cloS k s) : SVm (idx 0 L) s s := by
  cases s with
  | ptr i o => exact ⟨i, idn_ok hid i h, rfl⟩
  | sl i o n => exact .inl ⟨i, idn_ok hid i h, rfl⟩
  | fn f cap => exact ⟨cap, rfl, rfl, fun j p hp => ⟨p.1, idn_ok hid p.1 (h p (List.mem_of_getElem? hp)), hp⟩⟩
  | _ => first | trivial | rfl
theorem finR_ok {H : List Row} {h : HE} {l : List AV} {R : Res} {σ : St} (hclo : Clo H) (hc : Cln H h) (hp : hpG σ.h = hpE h) (hq : finR h H l = some R) : Fin H (· = R) σ (mkRes l) := by
  obtain ⟨ups, h1, h2⟩ := okO_some hq
  obtain ⟨L, h3, h4⟩ := okO_some h2
  obtain ⟨nw, h5, h6⟩ := okO_some h4
  obtain ⟨h7, h8⟩ := okB_some h6
  injection h8 with h8; subst h8
  simp only [Bool.and_eq_true] at h7
  obtain ⟨⟨⟨⟨⟨k1, k2⟩, k3⟩, k4⟩, k5⟩, k6⟩ := h7
  have hnod := nodB_ok k1
  obtain ⟨q1, q2⟩ := outNw_ok h5
  refine .mk _ (idx 0 L) rfl (mkRes_out L l) (hls_of fun n r' _ hr => ?_) ?_
  · rw [hp]
    rw [finL_ok _ H (upLt_ok k6)] at hr
    unfold Res.app at hr
    simp only [] at hr
    have row : ∀ {n c : Nat} {r : Row}, look (idx 0 L) n = some (some c) → hpE h c = some r → RowMt (idx 0 L) (hpE h) n (outRow L r) := fun {n c r} g1 g2 =>
      .inl ⟨c, r, g1, g2, rfl, fun ho => ⟨ho, inj_idx hnod g1⟩, svsm_out L r.cells⟩
    split at hr
    · rename_i hb
      obtain ⟨c, r, g1, g2, rfl⟩ := q2 _ _ hr
      have hb := Nat.le_of_ble_eq_true hb
      refine row ?_ g2
      rw [List.getElem?_drop, show H.length + (n - H.length) = n by omega] at g1
      rw [look_idx, if_pos (Nat.zero_le _), Nat.sub_zero, g1]; rfl
    · rename_i hb
      have hlt : n < H.length := by
        rcases Nat.lt_or_ge n H.length with h | h
        · exact h
        · rw [Nat.ble_eq_true_of_le h] at hb; cases hb
      rw [look_outU] at hr
      rcases upsR_ok hc h1 n (Nat.zero_le _) (by omega) with ⟨x, g1, g2⟩ | ⟨g1, g2⟩
      · rw [g1] at hr
        simp only [Option.map_some] at hr
        cases x with
        | none => cases hr
        | some r =>
          injection hr with hr; subst hr
          exact row (idn_ok k2 n hlt) g2
      · rw [g1] at hr
        simp only [Option.map_none] at hr
        refine .inl ⟨n, r', idn_ok k2 n hlt, by rw [g2]; exact hr, rfl, fun ho => ⟨ho, inj_idx hnod (idn_ok k2 n hlt)⟩, rfl, fun q s hs => ⟨s, hs, svm_clo k2 (hclo r' (List.mem_of_getElem? hr) s (List.mem_of_getElem? hs))⟩⟩
  · simp only [Bool.and_eq_true]
    exact ⟨⟨⟨k3, k4⟩, k2⟩, k5⟩
noncomputable def argHE : Nat → List Row → HE
  | _, [] => []
  | i, x :: l => (i, ⟨false, some x⟩) :: argHE (i + 1) l
theorem argHE_get : ∀ (l : List Row) (i n : Nat), look (argHE i l) n = if i ≤ n then (l[n - i]?).map fun r => ⟨false, some r⟩ else none
  | [], i, n => by show none = _; split <;> simp
  | x :: l, i, n => by
    show look ((i, ⟨false, some x⟩) :: argHE (i + 1) l) n = _
    rw [look_cons, argHE_get l (i + 1) n]
    by_cases h1 : n = i
    · subst h1; simp
    · rw [if_neg h1]
      by_cases h2 : i ≤ n
      · rw [if_pos (by omega), if_pos h2, show n - i = (n - (i + 1)) + 1 by omega]; rfl
      · rw [if_neg (by omega), if_neg h2]
theorem argHE_cln (H : List Row) : ∀ (l : List Row) (i : Nat), (∀ j, l[j]? = H[i + j]?) → Cln H (argHE i l)
  | [], i, _, p, hp, _ => by cases hp
  | x :: l, i, h, p, hp, hd => by
    change p ∈ (i, (⟨false, some x⟩ : En)) :: argHE (i + 1) l at hp
    rcases List.mem_cons.1 hp with rfl | hp
    · have := h 0; exact this
    · exact argHE_cln H l (i + 1) (fun j => by have := h (j + 1); rw [List.getElem?_cons_succ] at this; rw [this]; congr 1; omega) p hp hd
structure Fd where
  (N : Nat) (res : List ResultVar) (code : Code)
abbrev Fns (P : Program) := { F : FuncId → Option Fd // ∀ f d, F f = some d → ∃ fn, P.funcs[f]? = some fn ∧ (fn.name == "runtime.NumGoroutine") = false ∧ fn.body = some d.code ∧ fn.ntmps = d.N ∧ fn.results.toList = d.res }
abbrev Ctr (P : Program) := { C : FuncId → List AV → List Row → Option Res // ∀ f args H R, C f args H = some R → Fn P f args H (· = R) }
section
variable {P : Program} (E : EqT P) (T : Tys) (fc : Bool) (F : Fns P) (Ct : Ctr P)
noncomputable def bodyR (fuel : Nat) (run : FuncId → List AV → List Row → Option Res) (f : FuncId) (args : List AV) (H : List Row) : Option Res :=
  match Ct.1 f args H with
  | some R => some R
  | none => okO (F.1 f) fun d => okB (Nat.ble args.length d.N && Nat.ble H.length 1000) (dcode E T fc (callR run) fuel d.N d.code (argTm 0 args) (argHE 0 H) 0 fun e tm h _ => match e with
    | .normal => dresV T tm h d.res fun l => finR h H l
    | .ret => dresV T tm h d.res fun l => finR h H l
    | _ => none)
noncomputable def runF (fuel depth : Nat) : FuncId → List AV → List Row → Option Res := Nat.rec (fun _ _ _ => none) (fun _ ih => bodyR E T fc F Ct fuel ih) depth
variable {E T fc F Ct}
theorem runF_ok (hm : P.follows .mixedOrders = true) (hT : TysOk P T) {fuel : Nat} : ∀ (depth : Nat) (f : FuncId) (args : List AV) (H : List Row) (R : Res), Clo H → runF E T fc F Ct fuel depth f args H = some R → Fn P f args H (· = R)
  | 0, _, _, _, _, _, h => by cases h
  | d + 1, f, args, H, R, hclo, h => by
    change bodyR E T fc F Ct fuel (runF E T fc F Ct fuel d) f args H = some R at h
    unfold bodyR at h
    split at h
    · rename_i R' hR
      injection h with h; subst h
      exact Ct.2 _ _ _ _ hR
    · obtain ⟨fd, h1, h2⟩ := okO_some h
      obtain ⟨h2, h3⟩ := okB_some h2
      obtain ⟨fn, g1, g2, g3, g4, g5⟩ := F.2 f fd h1
      refine fn_of_vc hm hT fd.N fd.res g1 g2 g3 g4 g5 h2 ?_
      have ih := runF_ok hm hT (fuel := fuel) d
      refine dcode_ok (α := Res) (H := H) (callR_ok ih) fd.code _ _ _ _ R _ _ h3 ⟨rfl, ?_, rfl, argHE_cln H H 0 fun j => by rw [Nat.zero_add]⟩ fun e tm h n σ hk hs => ?_
      · funext n
        unfold hpE
        rw [lk_eq, argHE_get, argHl_get]
        split
        · cases H[n - 0]? <;> rfl
        · rfl
      · cases e with
        | normal => exact dresV_ok hs.tm hs.hp (fun l hl => finR_ok hclo hs.cln hs.hp hl) hk
        | ret => exact dresV_ok hs.tm hs.hp (fun l hl => finR_ok hclo hs.cln hs.hp hl) hk
        | exit i => cases hk
        | goto i => cases hk
        | panic c => cases hk
        | outgrown => cases hk
end
end Go.Proofs.Ytffhbadeoadbkaa
