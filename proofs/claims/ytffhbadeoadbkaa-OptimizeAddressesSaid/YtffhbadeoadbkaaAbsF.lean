/- What one operation does, said of the abstract machine: addresses, parts, slices, numbers. -/
import Derived.Test.YtffhbadeoadbkaaAbsE
import Derived.Laws.BytesString
namespace Go.Proofs.Ytffhbadeoadbkaa
open Go Go.RowKit
variable {P : Program} {o : Oper} {tv : Operand → TV} {n0 : Nat}

theorem sem_fieldAddr {T : Tys} (hT : TysOk P T) (t : TypeId) (x : Operand) (f : Nat) (y yf : Ty) (fs : List (Nat × TypeId)) (p : Nat × TypeId) (i k : Nat) (ho : o.op = .fieldAddr t x f) (hx : tv x = .a (.s (.ptr i k))) (hy : T t = some y) (hk : y.kind = .struct fs)
    (hf : fs[f]? = some p) (hyf : T p.2 = some yf) (hs : Nat.beq yf.size 0 = false) : SemOp P o tv n0 [] (· = ⟨.a (.s (.ptr i (k + p.1))), [], []⟩) :=
  SemOp.read fun F ρ hp a w h1 hc _ => by
    obtain ⟨L, hL, h2⟩ := eval2 h1 (by rw [ho]; simp [Op.operands]) hx
    obtain ⟨fields, h3, h4⟩ := (hT t y hy).struct hk
    subst h4
    rw [List.getElem?_map] at hf
    cases e : fields.toList[f]? with
    | none => rw [e] at hf; cases hf
    | some fd =>
      rw [e] at hf
      injection hf with hf; subst hf
      have e' : fields[f]? = some fd := by simpa using e
      have hs := Nat.ne_of_beq_eq_false hs
      refine ⟨.pointer (some ⟨L.b, L.δ + (k + fd.offset), none⟩), ⟨L, hL, rfl⟩, ?_⟩
      unfold execOp; rw [ho]
      simp [h2, Instr.fieldAt, Instr.sureAddr, run_underlying h3, e', fieldPlace, (hT _ _ hyf).sizeOf w, hs, Addr.add_lit, Nat.add_assoc]
theorem sem_indexAddr {T : Tys} (hT : TysOk P T) (t e : TypeId) (x ix : Operand) (y ye : Ty) (i k n : Nat) (q : IntKind) (z : Int) (ho : o.op = .indexAddr t x ix) (hx : tv x = .a (.s (.sl i k n))) (hix : tv ix = .a (.s (.int q z))) (hy : T t = some y) (hk : y.kind = .slice e)
    (he : T e = some ye) (h0 : 0 ≤ z) (hn : z < n) : SemOp P o tv n0 [] (· = ⟨.a (.s (.ptr i (k + z.toNat * ye.size))), [], []⟩) :=
  SemOp.read fun F ρ hp a w h1 hc _ => by
    obtain ⟨A, c, h2, h3, h4⟩ := eval2 h1 (by rw [ho]; simp [Op.operands]) hx
    have h5 : a.eval ix = .int q z := eval2 h1 (by rw [ho]; simp [Op.operands]) hix
    have hu := (hT t y hy).sl hk
    rcases h4 with ⟨L, hL, ⟨rfl, _⟩ | h6⟩ | ⟨_, h6⟩
    · refine ⟨.pointer (some ⟨L.b, L.δ + (k + z.toNat * ye.size), none⟩), ⟨L, hL, rfl⟩, ?_⟩
      unfold execOp; rw [ho]
      have e1 : (asIntOf (.int q z)).run P w = .ok (q, z) w := rfl
      simp [h2, h5, Instr.indexAt, e1, run_underlying hu, h0, hn, (hT _ _ he).sizeOf w, Addr.add_lit, Nat.add_assoc]
    · omega
    · omega
theorem sem_indexAddrA {T : Tys} (hT : TysOk P T) (t e : TypeId) (x ix : Operand) (y ye : Ty) (i k n : Nat) (q : IntKind) (z : Int) (ho : o.op = .indexAddr t x ix) (hx : tv x = .a (.s (.ptr i k))) (hix : tv ix = .a (.s (.int q z))) (hy : T t = some y) (hk : y.kind = .array n e)
    (he : T e = some ye) (h0 : 0 ≤ z) (hn : z < n) : SemOp P o tv n0 [] (· = ⟨.a (.s (.ptr i (k + z.toNat * ye.size))), [], []⟩) :=
  SemOp.read fun F ρ hp a w h1 hc _ => by
    obtain ⟨L, hL, h2⟩ := eval2 h1 (by rw [ho]; simp [Op.operands]) hx
    have h5 : a.eval ix = .int q z := eval2 h1 (by rw [ho]; simp [Op.operands]) hix
    have hu := (hT t y hy).arr hk
    refine ⟨.pointer (some ⟨L.b, L.δ + (k + z.toNat * ye.size), none⟩), ⟨L, hL, rfl⟩, ?_⟩
    unfold execOp; rw [ho]
    have e1 : (asIntOf (.int q z)).run P w = .ok (q, z) w := rfl
    simp [h2, h5, Instr.indexAt, Instr.sureAddr, e1, run_underlying hu, h0, hn, (hT _ _ he).sizeOf w, Addr.add_lit, Nat.add_assoc]
theorem sem_indexS {T : Tys} (hT : TysOk P T) (t : TypeId) (x ix : Operand) (y : Ty) (s : ByteArray) (q : IntKind) (z : Int) (b : UInt8) (ho : o.op = .index t x ix) (hx : tv x = .a (.s (.str s))) (hix : tv ix = .a (.s (.int q z))) (hy : T t = some y) (hk : y.kind = .str)
    (h0 : 0 ≤ z) (hb : s[z.toNat]? = some b) : SemOp P o tv n0 [] (· = ⟨.a (.s (.int .u8 b.toNat)), [], []⟩) :=
  SemOp.read fun F ρ hp a w h1 hc _ => by
    have h2 : a.eval x = .string s := eval2 h1 (by rw [ho]; simp [Op.operands]) hx
    have h5 : a.eval ix = .int q z := eval2 h1 (by rw [ho]; simp [Op.operands]) hix
    have hu := (hT t y hy).str hk
    refine ⟨.int .u8 b.toNat, rfl, ?_⟩
    unfold execOp; rw [ho]
    have e1 : (asIntOf (.int q z)).run P w = .ok (q, z) w := rfl
    simp [h2, h5, Instr.index, e1, run_underlying hu, h0, hb]
/-- A part of cells: one, or a run. -/
def partS (y : Ty) (l : List SV) (off : Nat) : Option AV :=
  match y.kind.agg with
  | true => some (.agg (seg l off y.size))
  | false => match l[off]? with
    | some s => some (.s s)
    | none => none
theorem seg_ok {ρ : Nm} {l : List SV} {cs : Array Value} (h : VSs ρ l cs.toList) (off n : Nat) : VSs ρ (seg l off n) (cs.extract off (off + n)).toList := by
  have hl : l.length = cs.size := by have := h.1; simpa using this
  refine ⟨by simp [seg, hl], fun k s hs => ?_⟩
  unfold seg at hs
  rw [List.getElem?_take] at hs
  split at hs
  · rename_i hk
    rw [List.getElem?_drop] at hs
    obtain ⟨v, h1, h2⟩ := h.2 _ s hs
    refine ⟨v, ?_, h2⟩
    have h1' : cs[off + k]? = some v := by simpa using h1
    rw [Array.getElem?_toList, Array.getElem?_extract]
    have := (Array.getElem?_eq_some_iff.1 h1').1
    rw [if_pos (by omega)]
    exact h1'
  · cases hs
theorem part_ok {T : Tys} (hT : TysOk P T) {t : TypeId} {y : Ty} (hy : T t = some y) {ρ : Nm} {l : List SV} {cs : Array Value} (h : VSs ρ l cs.toList) {off : Nat} {u : AV} (hp : partS y l off = some u) (w : World) :
    ∃ v, (part t cs off).run P w = .ok v w ∧ VA ρ u v := by
  unfold partS at hp
  cases e : y.kind.agg with
  | true =>
    rw [e] at hp
    injection hp with hp; subst hp
    refine ⟨.agg (cs.extract off (off + y.size)), ?_, ⟨_, rfl, seg_ok h off y.size⟩⟩
    simp [part, (hT t y hy).agg w, e, (hT t y hy).sizeOf w]
  | false =>
    rw [e] at hp
    simp only [] at hp
    cases e2 : l[off]? with
    | none => rw [e2] at hp; cases hp
    | some s =>
      rw [e2] at hp
      injection hp with hp; subst hp
      obtain ⟨v, h1, h2⟩ := h.2 _ s e2
      have h1' : cs[off]? = some v := by simpa using h1
      exact ⟨v, by simp [part, (hT t y hy).agg w, e, h1'], h2⟩
theorem eval2a {ρ : Nm} {a : Act} {x : Operand} {u : AV} (h1 : ∀ z ∈ o.op.operands, VT ρ (tv z) (a.eval z)) (hm : x ∈ o.op.operands) (hx : tv x = .a u) : VA ρ u (a.eval x) := by
  have := h1 x hm; rw [hx] at this; exact this
theorem sem_field {T : Tys} (hT : TysOk P T) (t : TypeId) (x : Operand) (f : Nat) (y yf : Ty) (fs : List (Nat × TypeId)) (p : Nat × TypeId) (l : List SV) (u : AV) (ho : o.op = .field t x f) (hx : tv x = .a (.agg l)) (hy : T t = some y) (hk : y.kind = .struct fs)
    (hf : fs[f]? = some p) (hyf : T p.2 = some yf) (hu : partS yf l p.1 = some u) : SemOp P o tv n0 [] (· = ⟨.a u, [], []⟩) :=
  SemOp.read fun F ρ hp a w h1 hc _ => by
    obtain ⟨cs, h2, h6⟩ := eval2a h1 (by rw [ho]; simp [Op.operands]) hx
    obtain ⟨fields, h3, h4⟩ := (hT t y hy).struct hk
    subst h4
    rw [List.getElem?_map] at hf
    cases e : fields.toList[f]? with
    | none => rw [e] at hf; cases hf
    | some fd =>
      rw [e] at hf
      injection hf with hf; subst hf
      have e' : fields[f]? = some fd := by simpa using e
      obtain ⟨v, h7, h8⟩ := part_ok hT hyf h6 hu w
      refine ⟨v, h8, ?_⟩
      unfold execOp; rw [ho]
      simp [h2, Instr.field, run_underlying h3, e', asAgg, h7]
theorem sem_indexA {T : Tys} (hT : TysOk P T) (t e : TypeId) (x ix : Operand) (y ye : Ty) (l : List SV) (n : Nat) (u : AV) (q : IntKind) (z : Int) (ho : o.op = .index t x ix) (hx : tv x = .a (.agg l)) (hix : tv ix = .a (.s (.int q z))) (hy : T t = some y) (hk : y.kind = .array n e)
    (he : T e = some ye) (h0 : 0 ≤ z) (hn : z < n) (hu : partS ye l (z.toNat * ye.size) = some u) : SemOp P o tv n0 [] (· = ⟨.a u, [], []⟩) :=
  SemOp.read fun F ρ hp a w h1 hc _ => by
    obtain ⟨cs, h2, h6⟩ := eval2a h1 (by rw [ho]; simp [Op.operands]) hx
    have h5 : a.eval ix = .int q z := eval2 h1 (by rw [ho]; simp [Op.operands]) hix
    have hut := (hT t y hy).arr hk
    obtain ⟨v, h7, h8⟩ := part_ok hT he h6 hu w
    refine ⟨v, h8, ?_⟩
    unfold execOp; rw [ho]
    have e1 : (asIntOf (.int q z)).run P w = .ok (q, z) w := rfl
    simp [h2, h5, Instr.index, e1, run_underlying hut, h0, hn, (hT _ _ he).sizeOf w, h7]
theorem sem_extract (x : Operand) (k : Nat) (l : List AV) (u : AV) (ho : o.op = .extract x k) (hx : tv x = .tup l) (hu : l[k]? = some u) : SemOp P o tv n0 [] (· = ⟨.a u, [], []⟩) :=
  SemOp.read fun F ρ hp a w h1 hc _ => by
    have h2 := h1 x (by rw [ho]; simp [Op.operands])
    rw [hx] at h2
    obtain ⟨vs, h3, h4⟩ := h2
    obtain ⟨v, h5, h6⟩ := h4.2 k u hu
    have h5' : vs[k]? = some v := by simpa using h5
    refine ⟨v, h6, ?_⟩
    unfold execOp; rw [ho]
    simp [h3, Instr.extract, h5']
theorem sem_nilCheck (x : Operand) (i k : Nat) (ho : o.op = .nilCheck x) (hx : tv x = .a (.s (.ptr i k))) : SemOp P o tv n0 [] (· = ⟨.a (.s (.ptr i k)), [], []⟩) :=
  SemOp.read fun F ρ hp a w h1 hc _ => by
    have h2 := eval2 h1 (by rw [ho]; simp [Op.operands]) hx
    obtain ⟨L, hL, h3⟩ := h2
    refine ⟨a.eval x, ⟨L, hL, h3⟩, ?_⟩
    unfold execOp; rw [ho]
    simp [h3]
theorem sem_nilCheckF (x : Operand) (f : FuncId) (cap : List (Nat × Nat)) (ho : o.op = .nilCheck x) (hx : tv x = .a (.s (.fn (.func f) cap))) : SemOp P o tv n0 [] (· = ⟨.a (.s (.fn (.func f) cap)), [], []⟩) :=
  SemOp.read fun F ρ hp a w h1 hc _ => by
    have h2 := eval2 h1 (by rw [ho]; simp [Op.operands]) hx
    obtain ⟨vs, h3, h4⟩ := h2
    refine ⟨a.eval x, ⟨vs, h3, h4⟩, ?_⟩
    unfold execOp; rw [ho]
    simp [h3]
theorem sem_convI {T : Tys} (hT : TysOk P T) (s d : TypeId) (x : Operand) (ys yd : Ty) (k q : IntKind) (z : Int) (ho : o.op = .convert s d x) (hx : tv x = .a (.s (.int q z))) (hs : T s = some ys) (hd : T d = some yd) (hk : yd.kind = .int k) :
    SemOp P o tv n0 [] (· = ⟨.a (.s (.int k (k.wrap z))), [], []⟩) :=
  SemOp.read fun F ρ hp a w h1 hc _ => by
    have h2 : a.eval x = .int q z := eval2 h1 (by rw [ho]; simp [Op.operands]) hx
    obtain ⟨ds, _, _, h3, _⟩ := hT s ys hs
    have h4 := (hT d yd hd).int hk
    refine ⟨.int k (k.wrap z), rfl, ?_⟩
    unfold execOp; rw [ho]
    simp [h2, run_convert_int w s d q z (by rw [h3]; rfl) (by rw [h4]; simp [Program.intKind, h4]), Program.intKind, h4]
theorem sem_convStr {T : Tys} (hT : TysOk P T) (s d : TypeId) (x : Operand) (ys yd : Ty) (z : ByteArray) (ho : o.op = .convert s d x) (hx : tv x = .a (.s (.str z))) (hs : T s = some ys) (hd : T d = some yd) (hk : yd.kind = .str) :
    SemOp P o tv n0 [] (· = ⟨.a (.s (.str z)), [], []⟩) :=
  SemOp.read fun F ρ hp a w h1 hc _ => by
    have h2 : a.eval x = .string z := eval2 h1 (by rw [ho]; simp [Op.operands]) hx
    obtain ⟨ds, _, _, h3, _⟩ := hT s ys hs
    have h4 := (hT d yd hd).str hk
    refine ⟨.string z, rfl, ?_⟩
    unfold execOp; rw [ho]
    simp only [h2, convert, Sem.run_bind, run_underlying h3, run_underlying h4, Result.andThen_ok]
    cases ds <;> rfl
theorem sem_len {T : Tys} (hT : TysOk P T) (c : Call) (t e : TypeId) (x : Operand) (y : Ty) (i k n : Nat) (ho : o.op = .call c) (hc0 : c.callee = .builtin .len) (hca : c.args = #[x]) (hct : c.argTypes = #[t]) (hx : tv x = .a (.s (.sl i k n))) (hy : T t = some y) (hk : y.kind = .slice e) :
    SemOp P o tv n0 [] (· = ⟨.a (.s (.int .i64 n)), [], []⟩) :=
  SemOp.read fun F ρ hp a w h1 hc _ => by
    obtain ⟨A, cc, h2, _⟩ := eval2 h1 (by rw [ho]; simp [Op.operands, Call.operands, hca, hc0]) hx
    have hu := (hT t y hy).sl hk
    refine ⟨.int .i64 n, rfl, ?_⟩
    unfold execOp; rw [ho]
    simp [resolve, hc0, hca, hct, invoke, builtin, Builtin.len_, h2, run_underlying hu, goInt]
theorem sem_lenNil {T : Tys} (hT : TysOk P T) (c : Call) (t e : TypeId) (x : Operand) (y : Ty) (ho : o.op = .call c) (hc0 : c.callee = .builtin .len) (hca : c.args = #[x]) (hct : c.argTypes = #[t]) (hx : tv x = .a (.s .nilsl)) (hy : T t = some y) (hk : y.kind = .slice e) :
    SemOp P o tv n0 [] (· = ⟨.a (.s (.int .i64 0)), [], []⟩) :=
  SemOp.read fun F ρ hp a w h1 hc _ => by
    have h2 : a.eval x = .slice none 0 0 := eval2 h1 (by rw [ho]; simp [Op.operands, Call.operands, hca, hc0]) hx
    have hu := (hT t y hy).sl hk
    refine ⟨.int .i64 0, rfl, ?_⟩
    unfold execOp; rw [ho]
    simp [resolve, hc0, hca, hct, invoke, builtin, Builtin.len_, h2, run_underlying hu, goInt]
theorem sem_lenS {T : Tys} (hT : TysOk P T) (c : Call) (t : TypeId) (x : Operand) (y : Ty) (s : ByteArray) (ho : o.op = .call c) (hc0 : c.callee = .builtin .len) (hca : c.args = #[x]) (hct : c.argTypes = #[t]) (hx : tv x = .a (.s (.str s))) (hy : T t = some y) (hk : y.kind = .str) :
    SemOp P o tv n0 [] (· = ⟨.a (.s (.int .i64 s.size)), [], []⟩) :=
  SemOp.read fun F ρ hp a w h1 hc _ => by
    have h2 : a.eval x = .string s := eval2 h1 (by rw [ho]; simp [Op.operands, Call.operands, hca, hc0]) hx
    have hu := (hT t y hy).str hk
    refine ⟨.int .i64 s.size, rfl, ?_⟩
    unfold execOp; rw [ho]
    simp [resolve, hc0, hca, hct, invoke, builtin, Builtin.len_, h2, run_underlying hu, goInt]
/-- The least of numbers. -/
def minS (x y : Int) : Int := if y < x then y else x
def minL : Int → List Int → Int
  | x, [] => x
  | x, y :: l => minL (minS x y) l
theorem run_min (k : IntKind) (w : World) : ∀ (l : List Int) (x : Int), ((l.map (Value.int k)).foldlM Builtin.min2 (.int k x)).run P w = .ok (.int k (minL x l)) w := by
  intro l
  induction l with
  | nil => intro x; rfl
  | cons y l ih =>
    intro x
    simp only [List.map_cons, List.foldlM_cons, Builtin.min2, Sem.run_bind]
    exact ih _
def intsS (tv : Operand → TV) (k : IntKind) : List Operand → Option (List Int)
  | [] => some []
  | x :: l => match tv x with
    | .a (.s (.int q z)) => if q = k then (match intsS tv k l with | some r => some (z :: r) | none => none) else none
    | _ => none
theorem ints_ok {ρ : Nm} {a : Act} (k : IntKind) : ∀ (l : List Operand) (r : List Int), intsS tv k l = some r → (∀ x ∈ l, VT ρ (tv x) (a.eval x)) → l.map a.eval = r.map (Value.int k) := by
  intro l
  induction l with
  | nil => intro r h _; injection h with h; subst h; rfl
  | cons x l ih =>
    intro r h hv
    unfold intsS at h
    have hx := hv x (by simp)
    split at h
    · rename_i q z e
      rw [e] at hx
      split at h
      · rename_i hq; subst hq
        split at h
        · rename_i r' e2
          injection h with h; subst h
          simp only [List.map_cons]
          rw [ih r' e2 (fun y hy => hv y (by simp [hy]))]
          congr 1
        · cases h
      · cases h
    · cases h
theorem sem_min (c : Call) (k : IntKind) (x : Operand) (l : List Operand) (z : Int) (r : List Int) (ho : o.op = .call c) (hc0 : c.callee = .builtin .min) (hca : c.args.toList = x :: l) (hx : intsS tv k (x :: l) = some (z :: r)) :
    SemOp P o tv n0 [] (· = ⟨.a (.s (.int k (minL z r))), [], []⟩) :=
  SemOp.read fun F ρ hp a w h1 hc _ => by
    have h2 := ints_ok (ρ := ρ) (a := a) k _ _ hx (fun y hy => h1 y (by rw [ho]; simp only [Op.operands, Call.operands, hc0]; rw [← hca] at hy; simpa using hy))
    have h3 : (c.args.map a.eval).toList = .int k z :: r.map (Value.int k) := by rw [Array.toList_map, hca, h2]; rfl
    refine ⟨.int k (minL z r), rfl, ?_⟩
    unfold execOp; rw [ho]
    simp only [resolve, hc0, invoke, builtin, Builtin.min_, h3, run_min, Sem.run_bind, Result.andThen_ok, Sem.run_pure]
def capsS (tv : Operand → TV) : List Operand → Option (List (Nat × Nat))
  | [] => some []
  | x :: l => match tv x with
    | .a (.s (.ptr i k)) => (match capsS tv l with | some r => some ((i, k) :: r) | none => none)
    | _ => none
theorem caps_ok {ρ : Nm} {a : Act} : ∀ (l : List Operand) (r : List (Nat × Nat)), capsS tv l = some r → (∀ x ∈ l, VT ρ (tv x) (a.eval x)) →
    l.length = r.length ∧ ∀ (k : Nat) (p : Nat × Nat), r[k]? = some p → ∃ L, ρ p.1 = some (.at L) ∧ (l.map a.eval)[k]? = some (Value.pointer (some ⟨L.b, L.δ + p.2, none⟩)) := by
  intro l
  induction l with
  | nil => intro r h _; injection h with h; subst h; exact ⟨rfl, fun k p e => by cases e⟩
  | cons x l ih =>
    intro r h hv
    unfold capsS at h
    have hx := hv x (by simp)
    split at h
    · rename_i i k e
      rw [e] at hx
      split at h
      · rename_i r' e2
        injection h with h; subst h
        obtain ⟨g1, g2⟩ := ih r' e2 (fun y hy => hv y (by simp [hy]))
        refine ⟨by simp [g1], fun j p hj => ?_⟩
        cases j with
        | zero => simp at hj; subst hj; obtain ⟨L, hL, h3⟩ := hx; exact ⟨L, hL, by simp [h3]⟩
        | succ j => exact g2 j p hj
      · cases h
    · cases h
theorem sem_makeFunc (f : Fn) (cs : Array Operand) (cap : List (Nat × Nat)) (ho : o.op = .makeFunc f #[] cs) (hc : capsS tv cs.toList = some cap) : SemOp P o tv n0 [] (· = ⟨.a (.s (.fn f cap)), [], []⟩) :=
  SemOp.read fun F ρ hp a w h1 _ _ => by
    obtain ⟨g1, g2⟩ := caps_ok (ρ := ρ) (a := a) _ _ hc (fun x hx => h1 x (by rw [ho]; simp only [Op.operands]; simpa using hx))
    refine ⟨.func f #[] (cs.map a.eval), ⟨_, rfl, by simpa using g1, fun k p hp => ?_⟩, ?_⟩
    · obtain ⟨L, hL, h2⟩ := g2 k p hp
      exact ⟨L, hL, by simpa using h2⟩
    · unfold execOp; rw [ho]
      simp [Instr.makeFunc]
end Go.Proofs.Ytffhbadeoadbkaa
