/- What one operation does, said of the abstract machine: memory. -/
import Derived.Test.YtffhbadeoadbkaaAbsB
import Derived.Laws.MakeOwn
namespace Go.Proofs.Ytffhbadeoadbkaa
open Go Go.RowKit

inductive TKind where
  | int (k : IntKind) | bool | str | ptr (e : TypeId) | slice (e : TypeId) | struct (fs : List (Nat × TypeId)) | array (n : Nat) (e : TypeId) | other
structure Ty where
  (size bytes : Nat) (zero : List SV) (kind : TKind)
def TKind.agg : TKind → Bool
  | .struct _ | .array _ _ => true
  | _ => false
/-- A constant. -/
def absS : Value → SV
  | .bool b => .bool b
  | .int k n => .int k n
  | .string s => .str s
  | .pointer none => .nil
  | .slice none 0 0 => .nilsl
  | _ => .unk
theorem absS_ok (ρ : Nm) (v : Value) : VS ρ (absS v) v := by
  unfold absS
  split <;> simp [VS]
def absC : Value → TV
  | .agg cs => .a (.agg (cs.toList.map absS))
  | .tuple _ => .unk
  | v => .a (.s (absS v))
theorem absSs_ok (ρ : Nm) (cs : List Value) : VSs ρ (cs.map absS) cs := ⟨by simp, fun k s hs => by
  rw [List.getElem?_map] at hs
  cases e : cs[k]? with
  | none => rw [e] at hs; cases hs
  | some v => rw [e] at hs; injection hs with hs; subst hs; exact ⟨v, rfl, absS_ok ρ v⟩⟩
theorem absC_ok (ρ : Nm) (v : Value) : VT ρ (absC v) v := by
  unfold absC
  split
  · exact ⟨_, rfl, absSs_ok ρ _⟩
  · exact trivial
  · exact absS_ok ρ v
def KindOk : TypeDesc → TKind → Prop
  | .int k, .int k' => k = k'
  | .bool, .bool => True
  | .string, .str => True
  | .pointer e, .ptr e' => e = e'
  | .slice e, .slice e' => e = e'
  | .struct fields, .struct fs => fields.toList.map (fun f => (f.offset, f.type)) = fs
  | .array n e, .array n' e' => n = n' ∧ e = e'
  | .int _, _ | .bool, _ | .string, _ | .pointer _, _ | .slice _, _ | .struct _, _ | .array _ _, _ => False
  | _, .other => True
  | _, _ => False
def TyOk (P : Program) (t : TypeId) (y : Ty) : Prop :=
  ∃ d i z, P.underlying t = some d ∧ P.info? t = some i ∧ i.size = y.size ∧ i.bytes = y.bytes ∧ KindOk d y.kind ∧ i.zero = some z ∧ z.cells.toList.map absS = y.zero ∧ y.zero.length = y.size
abbrev Tys := TypeId → Option Ty
def TysOk (P : Program) (T : Tys) : Prop := ∀ t y, T t = some y → TyOk P t y

theorem TyOk.agg {P : Program} {t : TypeId} {y : Ty} (h : TyOk P t y) (w : World) : (isAgg t).run P w = .ok y.kind.agg w := by
  obtain ⟨d, i, z, h1, _, _, _, h5, _⟩ := h
  unfold isAgg
  rw [Sem.run_bind, run_underlying h1]
  revert h5
  cases d <;> cases y.kind <;> simp [KindOk, TKind.agg, Sem.run, pure]
theorem TyOk.sizeOf {P : Program} {t : TypeId} {y : Ty} (h : TyOk P t y) (w : World) : (sizeOf t).run P w = .ok y.size w := by
  obtain ⟨d, i, z, h1, h2, h3, _⟩ := h
  simp [Go.sizeOf, typeInfo, h2, h3]
theorem TyOk.zeroValue {P : Program} {t : TypeId} {y : Ty} (h : TyOk P t y) (w : World) : ∃ z : Value, (zeroValue t).run P w = .ok z w ∧ ∀ ρ, VSs ρ y.zero z.cells.toList := by
  obtain ⟨d, i, z, h1, h2, h3, _, _, h6, h7, _⟩ := h
  refine ⟨z, by simp [Go.zeroValue, typeInfo, h2, h6], fun ρ => ?_⟩
  rw [← h7]; exact absSs_ok ρ _
theorem TyOk.sl {P : Program} {t e : TypeId} {y : Ty} (h : TyOk P t y) (hk : y.kind = .slice e) : P.underlying t = some (.slice e) := by
  obtain ⟨d, i, z, h1, _, _, _, h5, _⟩ := h
  rw [hk] at h5
  cases d <;> simp [KindOk] at h5
  subst h5; exact h1
theorem TyOk.arr {P : Program} {t e : TypeId} {n : Nat} {y : Ty} (h : TyOk P t y) (hk : y.kind = .array n e) : P.underlying t = some (.array n e) := by
  obtain ⟨d, i, z, h1, _, _, _, h5, _⟩ := h
  rw [hk] at h5
  cases d <;> simp [KindOk] at h5
  obtain ⟨rfl, rfl⟩ := h5; exact h1
theorem TyOk.str {P : Program} {t : TypeId} {y : Ty} (h : TyOk P t y) (hk : y.kind = .str) : P.underlying t = some .string := by
  obtain ⟨d, i, z, h1, _, _, _, h5, _⟩ := h
  rw [hk] at h5
  cases d <;> simp [KindOk] at h5
  exact h1
theorem TyOk.bool {P : Program} {t : TypeId} {y : Ty} (h : TyOk P t y) (hk : y.kind = .bool) : P.underlying t = some .bool := by
  obtain ⟨d, i, z, h1, _, _, _, h5, _⟩ := h
  rw [hk] at h5
  cases d <;> simp [KindOk] at h5
  exact h1
theorem TyOk.int {P : Program} {t : TypeId} {y : Ty} {k : IntKind} (h : TyOk P t y) (hk : y.kind = .int k) : P.underlying t = some (.int k) := by
  obtain ⟨d, i, z, h1, _, _, _, h5, _⟩ := h
  rw [hk] at h5
  cases d <;> simp [KindOk] at h5
  subst h5; exact h1
theorem TyOk.struct {P : Program} {t : TypeId} {y : Ty} {fs : List (Nat × TypeId)} (h : TyOk P t y) (hk : y.kind = .struct fs) : ∃ fields : Array Field, P.underlying t = some (.struct fields) ∧ fields.toList.map (fun f => (f.offset, f.type)) = fs := by
  obtain ⟨d, i, z, h1, _, _, _, h5, _⟩ := h
  rw [hk] at h5
  cases d <;> simp [KindOk] at h5
  exact ⟨_, h1, by simpa using h5⟩

/-- A run of cells. -/
def seg (cells : List SV) (o n : Nat) : List SV := (cells.drop o).take n
variable {P : Program} {o : Oper} {tv : Operand → TV} {n0 : Nat}

theorem row_at {F : Fr} {ρ : Nm} {hp : Hp} {w : World} {i : Nat} {r : Row} {L : Loc} (hc : Conc F ρ hp w) (hr : hp i = some r) (hL : ρ i = some (.at L)) :
    L.es = r.es ∧ L.δ + r.cells.length ≤ L.tot ∧ ∃ c t fz, w.heap[L.b]? = some (.cells c t fz) ∧ c.size = L.tot ∧ (r.own = true → fz = (0, 0)) ∧ ∀ (k : Nat) s, r.cells[k]? = some s → ∃ v, c[L.δ + k]? = some v ∧ VS ρ s v := by
  have := hc.rows i r hr
  unfold RowOk at this
  rw [hL] at this
  exact this
theorem row_cell {F : Fr} {ρ : Nm} {hp : Hp} {w : World} {i : Nat} {r : Row} {L : Loc} (hc : Conc F ρ hp w) (hr : hp i = some r) (hL : ρ i = some (.at L)) {k : Nat} {s : SV} (hs : r.cells[k]? = some s) :
    ∃ v, w.cell? ⟨L.b, L.δ + k, none⟩ = some v ∧ VS ρ s v := by
  obtain ⟨_, _, c, t, fz, h1, _, _, h2⟩ := row_at hc hr hL
  obtain ⟨v, h3, h4⟩ := h2 k s hs
  exact ⟨v, by simp [World.cell?, h1, h3], h4⟩
/-- Cells read in a row. -/
theorem row_seg {F : Fr} {ρ : Nm} {hp : Hp} {w : World} {i : Nat} {r : Row} {L : Loc} (hc : Conc F ρ hp w) (hr : hp i = some r) (hL : ρ i = some (.at L)) (k : Nat) (l : List SV)
    (hs : ∀ (j : Nat) s, l[j]? = some s → r.cells[k + j]? = some s) :
    ∃ vs : List Value, VSs ρ l vs ∧ (loadCells ⟨L.b, L.δ + k, none⟩ l.length).run P w = .ok vs.toArray w := by
  have : ∀ j, ∃ v, j < l.length → (w.cell? ⟨L.b, L.δ + k + j, none⟩ = some v ∧ ∀ s, l[j]? = some s → VS ρ s v) := fun j => by
    by_cases hj : j < l.length
    · obtain ⟨v, h1, h2⟩ := row_cell hc hr hL (hs j _ (List.getElem?_eq_getElem hj))
      refine ⟨v, fun _ => ⟨by rw [Nat.add_assoc]; exact h1, fun s e => ?_⟩⟩
      rw [List.getElem?_eq_getElem hj] at e; injection e with e; subst e; exact h2
    · exact ⟨default, fun h => absurd h hj⟩
  obtain ⟨f, hf⟩ := Classical.axiomOfChoice this
  refine ⟨(List.range l.length).map f, ⟨by simp, fun j s e => ?_⟩, ?_⟩
  · have hj : j < l.length := (List.getElem?_eq_some_iff.1 e).1
    exact ⟨f j, by simp [hj], (hf j hj).2 s e⟩
  · exact run_loadCells w _ _ f fun j hj => by rw [Addr.add_lit]; exact (hf j hj).1
theorem sem_load {T : Tys} (hT : TysOk P T) (t : TypeId) (x : Operand) (y : Ty) (i k : Nat) (r : Row) (s : SV) (ho : o.op = .load t x) (hx : tv x = .a (.s (.ptr i k))) (hy : T t = some y) (hk : y.kind.agg = false) (hs : r.cells[k]? = some s) :
    SemOp P o tv n0 [(i, r)] (· = ⟨.a (.s s), [], []⟩) :=
  SemOp.read fun F ρ hp a w h1 hc hf => by
    obtain ⟨L, hL, h2⟩ := eval2 h1 (by rw [ho]; simp [Op.operands]) hx
    have hr := hf (i, r) (by simp)
    obtain ⟨v, h3, h4⟩ := row_cell hc hr hL hs
    refine ⟨v, h4, ?_⟩
    unfold execOp; rw [ho]
    simp [h2, Instr.loadAt, Instr.sureAddr, loadVar, (hT t y hy).agg w, hk, load, Sem.run, h3, pure]
theorem sem_loadAgg {T : Tys} (hT : TysOk P T) (t : TypeId) (x : Operand) (y : Ty) (i k : Nat) (r : Row) (l : List SV) (ho : o.op = .load t x) (hx : tv x = .a (.s (.ptr i k))) (hy : T t = some y) (hk : y.kind.agg = true) (hn : l.length = y.size)
    (hs : ∀ (j : Nat) s, l[j]? = some s → r.cells[k + j]? = some s) :
    SemOp P o tv n0 [(i, r)] (· = ⟨.a (.agg l), [], []⟩) :=
  SemOp.read fun F ρ hp a w h1 hc hf => by
    obtain ⟨L, hL, h2⟩ := eval2 h1 (by rw [ho]; simp [Op.operands]) hx
    have hr := hf (i, r) (by simp)
    obtain ⟨vs, h3, h4⟩ := row_seg (P := P) hc hr hL k l hs
    rw [hn] at h4
    refine ⟨.agg vs.toArray, ⟨_, rfl, h3⟩, ?_⟩
    unfold execOp; rw [ho]
    simp [h2, Instr.loadAt, Instr.sureAddr, loadVar, (hT t y hy).agg w, hk, (hT t y hy).sizeOf w, h4]
end Go.Proofs.Ytffhbadeoadbkaa
