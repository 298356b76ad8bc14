/- What one operation does, said of the abstract machine: stores, new rows, addresses, parts. -/
import Derived.Test.YtffhbadeoadbkaaAbsC
namespace Go.Proofs.Ytffhbadeoadbkaa
open Go Go.RowKit

def SV.known : SV → Bool
  | .unk => false
  | _ => true
def allKnown : List SV → Bool
  | [] => true
  | s :: l => match s.known with
    | true => allKnown l
    | false => false
theorem allKnown_mem {l : List SV} (h : allKnown l = true) : ∀ s ∈ l, s.known = true := by
  induction l with
  | nil => intro s hs; cases hs
  | cons a l ih =>
    unfold allKnown at h
    cases e : a.known with
    | false => rw [e] at h; cases h
    | true =>
      rw [e] at h
      intro s hs
      rcases List.mem_cons.1 hs with rfl | hs
      · exact e
      · exact ih h s hs
theorem VS.one {ρ : Nm} {s : SV} {v : Value} (h : VS ρ s v) (hk : s.known = true) : v.oneCell' = true := by
  cases s <;> simp only [VS, SV.known, Bool.false_eq_true] at h hk
  case bool => subst h; rfl
  case int => subst h; rfl
  case str => subst h; rfl
  case nil => subst h; rfl
  case ptr => obtain ⟨_, _, rfl⟩ := h; rfl
  case nilsl => subst h; rfl
  case sl => obtain ⟨_, _, rfl, _⟩ := h; rfl
  case fn => obtain ⟨_, rfl, _⟩ := h; rfl
def AV.cells : AV → List SV
  | .s x => [x]
  | .agg l => l
theorem VA.cells {ρ : Nm} {x : AV} {v : Value} (h : VA ρ x v) (hk : allKnown x.cells = true) : VSs ρ x.cells v.cells.toList := by
  cases x with
  | s x =>
    have h1 := VS.one h (allKnown_mem hk x (by simp [AV.cells]))
    have h2 : v.cells = #[v] := by cases v <;> simp_all [Value.cells, Value.oneCell']
    rw [h2]
    exact ⟨rfl, fun k s e => by
      cases k with
      | zero => simp [AV.cells] at e; subst e; exact ⟨v, rfl, h⟩
      | succ k => simp [AV.cells] at e⟩
  | agg l => obtain ⟨cs, rfl, hc⟩ := h; exact hc
theorem VSs.one {ρ : Nm} {l : List SV} {vs : List Value} (h : VSs ρ l vs) (hk : allKnown l = true) : ∀ v ∈ vs, v.oneCell' = true := by
  intro v hv
  obtain ⟨k, hk', rfl⟩ := List.getElem_of_mem hv
  have hl : k < l.length := by rw [h.1]; exact hk'
  obtain ⟨u, h1, h2⟩ := h.2 k _ (List.getElem?_eq_getElem hl)
  rw [List.getElem?_eq_getElem hk'] at h1
  injection h1 with h1; subst h1
  exact h2.one (allKnown_mem hk _ (List.getElem_mem hl))
/-- Cells stored in a row. -/
def setAll : List SV → Nat → List SV → List SV
  | c, _, [] => c
  | c, k, s :: l => setAll (c.set k s) (k + 1) l
theorem setAll_length (c : List SV) (k : Nat) (l : List SV) : (setAll c k l).length = c.length := by
  induction l generalizing c k with
  | nil => rfl
  | cons s l ih => rw [setAll, ih]; simp
theorem setAll_get (c : List SV) (k : Nat) (l : List SV) (j : Nat) (hl : k + l.length ≤ c.length) :
    (setAll c k l)[j]? = if k ≤ j ∧ j < k + l.length then l[j - k]? else c[j]? := by
  induction l generalizing c k with
  | nil => rw [setAll, if_neg]; simp
  | cons s l ih =>
    simp only [List.length_cons] at hl
    rw [setAll, ih _ _ (by simp; omega)]
    by_cases h1 : k + 1 ≤ j ∧ j < k + 1 + l.length
    · rw [if_pos h1, if_pos (by simp; omega)]
      rw [show j - k = (j - (k + 1)) + 1 by omega]; rfl
    · rw [if_neg h1]
      by_cases h2 : j = k
      · subst h2; rw [if_pos (by simp), Nat.sub_self, List.getElem?_set_self (by omega)]; rfl
      · rw [if_neg (by simp; omega), List.getElem?_set_ne (fun e => h2 e.symm)]
variable {P : Program} {o : Oper} {tv : Operand → TV} {n0 : Nat}

theorem look1 {α : Type} (n m : Nat) (x : α) : look [(m, x)] n = if n = m then some x else none := by
  unfold look look
  cases hb : Nat.beq n m with
  | true => rw [if_pos (Nat.eq_of_beq_eq_true hb)]
  | false => rw [if_neg (Nat.ne_of_beq_eq_false hb)]
theorem app_up (v : TV) (i : Nat) (r : Option Row) (hp : Hp) : Ef.app ⟨v, [(i, r)], []⟩ hp = Hp.set hp i r := by
  funext m
  show (match look [(i, r)] m with | some r => r | none => hp m) = _
  rw [look1]
  unfold Hp.set
  by_cases h : m = i <;> simp [h]
theorem seg_get {cur : List Value} {k m j : Nat} {vs : List Value} (hm : vs.length = m) (hk : k + m ≤ cur.length) :
    (cur.take k ++ vs ++ cur.drop (k + m))[j]? = if k ≤ j ∧ j < k + m then vs[j - k]? else cur[j]? := by
  subst hm
  have hkl : (cur.take k).length = k := by simp; omega
  by_cases h1 : j < k
  · rw [if_neg (by omega), List.append_assoc, List.getElem?_append_left (by omega), List.getElem?_take, if_pos h1]
  · by_cases h2 : j < k + vs.length
    · rw [if_pos (by omega), List.append_assoc, List.getElem?_append_right (by omega), List.getElem?_append_left (by omega), hkl]
    · rw [if_neg (by omega), List.getElem?_append_right (by simp; omega), List.getElem?_drop]
      congr 1
      simp; omega
theorem sem_store {T : Tys} (hT : TysOk P T) (t : TypeId) (x z : Operand) (y : Ty) (i k : Nat) (r : Row) (u : AV) (ho : o.op = .store t x z) (hx : tv x = .a (.s (.ptr i k))) (hz : tv z = .a u) (hy : T t = some y)
    (hn : u.cells.length = y.size) (hkn : allKnown u.cells = true) (hown : r.own = true) (hfit : k + u.cells.length ≤ r.cells.length) :
    SemOp P o tv n0 [(i, r)] (· = ⟨.unk, [(i, some { r with cells := setAll r.cells k u.cells })], []⟩) := by
  intro F ρ hp a w Q K h1 hc hf hfr hK
  obtain ⟨L, hL, h2⟩ := eval2 h1 (by rw [ho]; simp [Op.operands]) hx
  have h3 := h1 z (by rw [ho]; simp [Op.operands])
  rw [hz] at h3
  have h4 := VA.cells h3 hkn
  have hr := hf (i, r) (by simp)
  obtain ⟨_, hcl, c, ct, fz, e1, e2, e3, e4⟩ := row_at hc hr hL
  simp only [] at hcl hr
  have e3 := e3 hown
  subst e3
  have hlen : (a.eval z).cells.toList.length = u.cells.length := h4.1.symm
  have hrun := run_storeCells_at P L.b (L.δ + k) ct (a.eval z).cells.toList 0 c w e1 (by rw [hlen]; omega) (h4.one hkn)
  have hw : (execOp a.eval o).run P w = .ok .skip (w.setRow L.b (c.toList.take (L.δ + k) ++ (a.eval z).cells.toList ++ c.toList.drop (L.δ + k + u.cells.length)).toArray) := by
    unfold execOp; rw [ho]
    have hsz : (a.eval z).cells.size = y.size := by rw [← hn, ← hlen]; simp
    simp only [Nat.add_zero, hlen] at hrun
    simp [h2, Instr.storeAt, Instr.sureAddr, storeVar, (hT t y hy).sizeOf w, hsz, hrun]
  unfold Oper.wp
  rw [hw, Oper.upon_skip]
  refine hK _ ρ undef _ rfl (Ext.refl _) (fun _ _ => rfl) trivial ?_
  rw [app_up]
  refine hc.write hr hown hL (c' := _) (t := ct) (setAll r.cells k u.cells) (setRow_heap w L.b c _ ct _ e1) (by simp only [List.size_toArray, List.length_append, List.length_take, List.length_drop, hlen, Array.length_toList]; omega) (by simp only [setAll_length]; exact hcl) (fun j s hs => ?_) (fun b hb => setRow_other _ _ _ _ hb) (by simp) rfl rfl rfl
  rw [setAll_get _ _ _ _ hfit] at hs
  simp only [List.getElem?_toArray]
  rw [seg_get hlen (by simp; omega)]
  split at hs
  · rename_i hj
    rw [if_pos (by omega), show L.δ + j - (L.δ + k) = j - k by omega]
    exact h4.2 _ _ hs
  · rename_i hj
    rw [if_neg (by omega)]
    obtain ⟨v, h5, h6⟩ := e4 j s hs
    exact ⟨v, by simpa using h5, h6⟩
end Go.Proofs.Ytffhbadeoadbkaa
