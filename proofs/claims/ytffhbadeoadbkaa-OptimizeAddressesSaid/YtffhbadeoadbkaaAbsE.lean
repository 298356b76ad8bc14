/- What one operation does, said of the abstract machine: new rows, addresses, parts. -/
import Derived.Test.YtffhbadeoadbkaaAbsD
import Derived.Laws.Tables
namespace Go.Proofs.Ytffhbadeoadbkaa
open Go Go.RowKit
variable {P : Program} {o : Oper} {tv : Operand → TV} {n0 : Nat}

theorem sem_alloc {T : Tys} (hT : TysOk P T) (t : TypeId) (y : Ty) (ho : o.op = .alloc t) (hy : T t = some y) :
    SemOp P o tv n0 [] (· = ⟨.a (.s (.ptr n0 0)), [], [(n0, ⟨true, 1, y.zero⟩)]⟩) :=
  SemOp.mk fun F ρ hp a w _ _ _ => by
    obtain ⟨z, h1, h2⟩ := (hT t y hy).zeroValue w
    refine ⟨.pointer (some ⟨w.heap.size, 0, none⟩), z.cells, t, w, ?_, ?_, ?_, rfl, rfl, rfl, rfl, ?_⟩
    · have := (h2 ρ).1; simp at this; omega
    · intro k s hs; obtain ⟨v, h3, h4⟩ := (h2 ρ).2 k s hs; exact ⟨v, by simpa using h3, h4⟩
    · intro ρ' _ hn; exact ⟨_, hn, rfl⟩
    · unfold execOp; rw [ho]
      simp [Instr.alloc, h1, newVar, newRow]
theorem sem_box (t : TypeId) (x : Operand) (u : AV) (ho : o.op = .box t x) (hx : tv x = .a u) (hk : allKnown u.cells = true) :
    SemOp P o tv n0 [] (· = ⟨.a (.s (.ptr n0 0)), [], [(n0, ⟨true, 1, u.cells⟩)]⟩) :=
  SemOp.mk fun F ρ hp a w h1 _ _ => by
    have h2 := h1 x (by rw [ho]; simp [Op.operands])
    rw [hx] at h2
    have h3 := VA.cells h2 hk
    refine ⟨.pointer (some ⟨w.heap.size, 0, none⟩), (a.eval x).cells, t, w, ?_, ?_, ?_, rfl, rfl, rfl, rfl, ?_⟩
    · have := h3.1; simp at this; omega
    · intro k s hs; obtain ⟨v, h4, h5⟩ := h3.2 k s hs; exact ⟨v, by simpa using h4, h5⟩
    · intro ρ' _ hn; exact ⟨_, hn, rfl⟩
    · unfold execOp; rw [ho]
      simp [Instr.box, newVar, newRow]

/-- Parts laid into cells. -/
def fillS (place : Nat → Option (Nat × Nat)) : List SV → List (Nat × List SV) → Option (List SV)
  | c, [] => some c
  | c, p :: rest => match place p.1 with
    | none => none
    | some q => match Nat.beq p.2.length q.2 with
      | false => none
      | true => match Nat.ble (q.1 + p.2.length) c.length with
        | false => none
        | true => fillS place (setAll c q.1 p.2) rest
def VPs (ρ : Nm) (l : List (Nat × List SV)) (vs : List (Nat × Value)) : Prop := l.length = vs.length ∧ ∀ (k : Nat) p, l[k]? = some p → ∃ v, vs[k]? = some (p.1, v) ∧ VSs ρ p.2 v.cells.toList
theorem fold_set (off : Nat) (cs : Array Value) (l : List Value) (n : Nat) :
    ((l.zipIdx n).foldl (fun cs (p : Value × Nat) => cs.setIfInBounds (off + p.2) p.1) cs).size = cs.size ∧
    ∀ j, off + n + l.length ≤ cs.size → ((l.zipIdx n).foldl (fun cs (p : Value × Nat) => cs.setIfInBounds (off + p.2) p.1) cs)[j]? = if off + n ≤ j ∧ j < off + n + l.length then l[j - (off + n)]? else cs[j]? := by
  induction l generalizing n cs with
  | nil => refine ⟨rfl, fun j _ => ?_⟩; rw [if_neg (by simp)]; rfl
  | cons v l ih =>
    simp only [List.zipIdx_cons, List.foldl_cons]
    obtain ⟨h1, h2⟩ := ih (cs.setIfInBounds (off + n) v) (n + 1)
    refine ⟨by simpa using h1, fun j hj => ?_⟩
    simp only [List.length_cons] at hj
    rw [h2 j (by simp; omega)]
    by_cases e1 : off + (n + 1) ≤ j ∧ j < off + (n + 1) + l.length
    · rw [if_pos e1, if_pos (by simp; omega), show j - (off + n) = (j - (off + (n + 1))) + 1 by omega]; rfl
    · rw [if_neg e1]
      by_cases e2 : j = off + n
      · subst e2; rw [if_pos (by simp), Nat.sub_self, Array.getElem?_setIfInBounds_self_of_lt (by omega)]; rfl
      · rw [if_neg (by simp; omega), Array.getElem?_setIfInBounds_ne (fun e => e2 e.symm)]
theorem foldA (off : Nat) (cs : Array Value) (l : Array Value) :
    (l.zipIdx.foldl (fun cs (p : Value × Nat) => cs.setIfInBounds (off + p.2) p.1) cs) = (l.toList.zipIdx.foldl (fun cs (p : Value × Nat) => cs.setIfInBounds (off + p.2) p.1) cs) := by
  rw [← Array.foldl_toList, Array.toList_zipIdx]
theorem fill_ok (place : Nat → Option (Nat × Nat)) (ρ : Nm) : ∀ (l : List (Nat × List SV)) (vs : List (Nat × Value)) (c : List SV) (cs : Array Value) (r : List SV),
    VPs ρ l vs → VSs ρ c cs.toList → fillS place c l = some r → ∃ rs, Instr.fill place cs vs = some rs ∧ VSs ρ r rs.toList := by
  intro l
  induction l with
  | nil =>
    intro vs c cs r h1 h2 h3
    injection h3 with h3; subst h3
    have : vs = [] := by have := h1.1; simpa using this.symm
    subst this
    exact ⟨cs, rfl, h2⟩
  | cons p l ih =>
    intro vs c cs r h1 h2 h3
    cases vs with
    | nil => have := h1.1; simp at this
    | cons v vs =>
      obtain ⟨u, h4, h5⟩ := h1.2 0 p rfl
      injection h4 with h4; subst h4
      unfold fillS at h3
      cases e1 : place p.1 with
      | none => rw [e1] at h3; cases h3
      | some q =>
        rw [e1] at h3
        simp only [] at h3
        cases e2 : Nat.beq p.2.length q.2 with
        | false => rw [e2] at h3; cases h3
        | true =>
          rw [e2] at h3
          simp only [] at h3
          cases e3 : Nat.ble (q.1 + p.2.length) c.length with
          | false => rw [e3] at h3; cases h3
          | true =>
            rw [e3] at h3
            simp only [] at h3
            have e2 := Nat.eq_of_beq_eq_true e2
            have e3 := Nat.le_of_ble_eq_true e3
            have hul : u.cells.size = p.2.length := by have := h5.1; simp at this; omega
            have hcl : cs.size = c.length := by have := h2.1; simp at this; omega
            unfold Instr.fill
            rw [e1]
            simp only []
            rw [if_neg (by simp; omega)]
            refine ih vs _ _ r ⟨by have := h1.1; simpa using this, fun k x hx => h1.2 (k + 1) x hx⟩ ?_ h3
            rw [foldA]
            obtain ⟨g1, g2⟩ := fold_set q.1 cs u.cells.toList 0
            refine ⟨by simp [setAll_length, g1, hcl], fun k s hs => ?_⟩
            rw [setAll_get _ _ _ _ e3] at hs
            rw [Array.getElem?_toList, g2 k (by simp; omega)]
            simp only [Nat.add_zero, Array.length_toList, hul]
            split at hs
            · rename_i hj; rw [if_pos hj]; exact h5.2 _ _ hs
            · rename_i hj; rw [if_neg hj]; obtain ⟨x, h6, h7⟩ := h2.2 k s hs; exact ⟨x, by simpa using h6, h7⟩
def partsS (tv : Operand → TV) : List (Nat × Operand) → Option (List (Nat × List SV))
  | [] => some []
  | p :: l => match tv p.2 with
    | .a u => match allKnown u.cells with
      | true => match partsS tv l with
        | some r => some ((p.1, u.cells) :: r)
        | none => none
      | false => none
    | _ => none
theorem parts_ok {ρ : Nm} {a : Act} : ∀ (l : List (Nat × Operand)) (r : List (Nat × List SV)), partsS tv l = some r → (∀ x ∈ l.map (·.2), VT ρ (tv x) (a.eval x)) → VPs ρ r (l.map fun p => (p.1, a.eval p.2)) := by
  intro l
  induction l with
  | nil => intro r h _; injection h with h; subst h; exact ⟨rfl, fun k p e => by cases e⟩
  | cons p l ih =>
    intro r h hv
    unfold partsS at h
    have hp := hv p.2 (by simp)
    cases e1 : tv p.2 with
    | unk => rw [e1] at h; cases h
    | tup _ => rw [e1] at h; cases h
    | a u =>
      rw [e1] at h hp
      simp only [] at h
      cases e2 : allKnown u.cells with
      | false => rw [e2] at h; cases h
      | true =>
        rw [e2] at h
        simp only [] at h
        cases e3 : partsS tv l with
        | none => rw [e3] at h; cases h
        | some q =>
          rw [e3] at h
          injection h with h; subst h
          obtain ⟨g1, g2⟩ := ih q e3 (fun x hx => hv x (by simp at hx ⊢; exact .inr hx))
          refine ⟨by simp [g1], fun k x hx => ?_⟩
          cases k with
          | zero => simp at hx; subst hx; exact ⟨_, rfl, VA.cells hp e2⟩
          | succ k => exact g2 k x hx
def placesS (T : Tys) : List (Nat × TypeId) → Option (List (Nat × Nat))
  | [] => some []
  | p :: l => match T p.2 with
    | some y => match placesS T l with
      | some r => some ((p.1, y.size) :: r)
      | none => none
    | none => none
theorem places_ok {T : Tys} (hT : TysOk P T) : ∀ (fields : List Field) (r : List (Nat × Nat)), placesS T (fields.map fun f => (f.offset, f.type)) = some r →
    fields.mapM (fun f => (P.info? f.type).map fun i => (f.offset, i.size)) = some r := by
  intro fields
  induction fields with
  | nil => intro r h; injection h with h; subst h; rfl
  | cons f l ih =>
    intro r h
    unfold placesS at h
    simp only [List.map_cons] at h
    cases e1 : T f.type with
    | none => rw [e1] at h; cases h
    | some y =>
      rw [e1] at h
      simp only [] at h
      cases e2 : placesS T (l.map fun f => (f.offset, f.type)) with
      | none => rw [e2] at h; cases h
      | some q =>
        rw [e2] at h
        injection h with h; subst h
        obtain ⟨d, i, z, h1, h2, h3, _⟩ := hT _ _ e1
        simp [List.mapM_cons, h2, h3, ih q e2]
theorem built_ok {T : Tys} (hT : TysOk P T) (t : TypeId) (y : Ty) (ρ : Nm) (ps : List (Nat × List SV)) (vs : List (Nat × Value)) (l : List SV) (hy : T t = some y) (hv : VPs ρ ps vs)
    (hb : (∃ fs pl, y.kind = .struct fs ∧ placesS T fs = some pl ∧ fillS (fun i => pl[i]?) y.zero ps = some l) ∨ (∃ n e ye, y.kind = .array n e ∧ T e = some ye ∧ fillS (fun i => some (i * ye.size, ye.size)) y.zero ps = some l)) :
    ∃ cs, P.built t vs = some cs ∧ VSs ρ l cs.toList := by
  obtain ⟨d, it, z, h1, h2, h3, h4, h5, h6, h7, _⟩ := hT t y hy
  have hz : VSs ρ y.zero z.cells.toList := by rw [← h7]; exact absSs_ok ρ _
  rcases hb with ⟨fs, pl, hk, hp, hf⟩ | ⟨n, e, ye, hk, he, hf⟩
  · obtain ⟨fields, g1, g2⟩ := (hT t y hy).struct hk
    subst g2
    obtain ⟨cs, g3, g4⟩ := fill_ok _ ρ ps vs _ z.cells l hv hz hf
    refine ⟨cs, ?_, g4⟩
    unfold Program.built
    simp only [h2, g1, h6, places_ok hT _ _ hp]
    rw [← g3]
    congr 1
    funext x; simp
  · obtain ⟨cs, g3, g4⟩ := fill_ok _ ρ ps vs _ z.cells l hv hz hf
    refine ⟨cs, ?_, g4⟩
    obtain ⟨_, ie, _, _, k2, k3, _⟩ := hT e ye he
    unfold Program.built
    simp only [h2, (hT t y hy).arr hk, h6, k2, k3]
    exact g3
theorem sem_build {T : Tys} (hT : TysOk P T) (t : TypeId) (parts : Array (Nat × Operand)) (y : Ty) (ps : List (Nat × List SV)) (l : List SV) (ho : o.op = .build t parts) (hy : T t = some y) (hps : partsS tv parts.toList = some ps)
    (hb : (∃ fs pl, y.kind = .struct fs ∧ placesS T fs = some pl ∧ fillS (fun i => pl[i]?) y.zero ps = some l) ∨ (∃ n e ye, y.kind = .array n e ∧ T e = some ye ∧ fillS (fun i => some (i * ye.size, ye.size)) y.zero ps = some l)) :
    SemOp P o tv n0 [] (· = ⟨.a (.agg l), [], []⟩) :=
  SemOp.read fun F ρ hp a w h1 _ _ => by
    have hv := parts_ok (ρ := ρ) (a := a) _ _ hps (fun x hx => h1 x (by rw [ho]; simpa [Op.operands] using hx))
    obtain ⟨cs, h2, h3⟩ := built_ok hT t y ρ ps _ l hy hv hb
    refine ⟨.agg cs, ⟨cs, rfl, h3⟩, ?_⟩
    unfold execOp; rw [ho]
    have h4 : (Instr.build t (parts.map fun (i, x) => (i, a.eval x))).run P w = .ok (.agg cs) w := run_build w t _ cs (by simpa using h2)
    simp only [Sem.run_bind, h4, Result.andThen_ok]
    rfl
end Go.Proofs.Ytffhbadeoadbkaa
