/- The evaluator of one operation, and that it is right. -/
import Derived.Test.YtffhbadeoadbkaaAbsK
namespace Go.Proofs.Ytffhbadeoadbkaa
open Go Go.RowKit

abbrev KK := List (Nat × Row) → Ef → Prop
def vv (x : AV) : Ef := ⟨.a x, [], []⟩
def vs1 (x : SV) : Ef := ⟨.a (.s x), [], []⟩
/-- What a walk stops at: a condition; a value to be said; something to be looked up; a test. -/
inductive Sd (p K : Prop) : Prop
  | mk (h : p) (k : K)
inductive Vl {α : Type} (e : α) (K : α → Prop) : Prop
  | mk (z : α) (h : e = z) (k : K z)
inductive Ge {α : Type} (e : Option α) (K : α → Prop) : Prop
  | mk (z : α) (h : e = some z) (k : K z)
inductive Sg (cells : List SV) (o n : Nat) (K : List SV → Prop) : Prop
  | mk (l : List SV) (h : l.length = n ∧ ∀ (j : Nat) s, l[j]? = some s → cells[o + j]? = some s) (k : K l)
inductive Sk (cells : List SV) (o n : Nat) (K : List SV → Prop) : Prop
  | mk (l : List SV) (h : l.length = n ∧ allKnown l = true ∧ ∀ (j : Nat) s, l[j]? = some s → cells[o + j]? = some s) (k : K l)
inductive Br (b : Bool) (A B : Prop) : Prop
  | mk (t : b = true → A) (f : b = false → B)
inductive Gd (b want nw : Bool) (A B : Prop) : Prop
  | mk (t : b = want → A) (f : b = nw → B)
def fB (b : Bool) (K : Bool → Prop) : Prop := match b with
  | true => K true
  | false => K false
theorem fB_iff (b : Bool) (K : Bool → Prop) : fB b K ↔ K b := by cases b <;> exact Iff.rfl
/-- Two numbers. -/
def vInt (op : BinOp) (k : IntKind) (m : Int) (k' : IntKind) (n : Int) (K : SV → Prop) : Prop :=
  match op with
  | .shl => Sd (0 ≤ n) (Vl (k.wrap (m * 2 ^ min n.toNat k.bits)) fun z => K (.int k z))
  | .shr => Sd (0 ≤ n) (Vl (m / 2 ^ min n.toNat k.bits) fun z => K (.int k z))
  | .quo => Sd (k = k') (Sd (n ≠ 0) (Vl (k.wrap (m.tdiv n)) fun z => K (.int k z)))
  | .rem => Sd (k = k') (Sd (n ≠ 0) (Vl (m.tmod n) fun z => K (.int k z)))
  | .add => Sd (k = k') (Vl (k.wrap (m + n)) fun z => K (.int k z))
  | .sub => Sd (k = k') (Vl (k.wrap (m - n)) fun z => K (.int k z))
  | .mul => Sd (k = k') (Vl (k.wrap (m * n)) fun z => K (.int k z))
  | .and => Sd (k = k') (Vl (bits .and k m n) fun z => K (.int k z))
  | .or => Sd (k = k') (Vl (bits .or k m n) fun z => K (.int k z))
  | .xor => Sd (k = k') (Vl (bits .xor k m n) fun z => K (.int k z))
  | .andNot => Sd (k = k') (Vl (bits .andNot k m n) fun z => K (.int k z))
  | .eql => Sd (k = k') (Vl ((m == n)) fun z => K (.bool z))
  | .neq => Sd (k = k') (Vl ((m != n)) fun z => K (.bool z))
  | .lss => Sd (k = k') (Vl (decide (m < n)) fun z => K (.bool z))
  | .leq => Sd (k = k') (Vl (decide (m ≤ n)) fun z => K (.bool z))
  | .gtr => Sd (k = k') (Vl (decide (m > n)) fun z => K (.bool z))
  | .geq => Sd (k = k') (Vl (decide (m ≥ n)) fun z => K (.bool z))
def vStr (op : BinOp) (m n : ByteArray) (K : SV → Prop) : Prop :=
  match op with
  | .add => Sd (m.size + n.size ≤ 9223372036854775807) (Vl (m ++ n) fun z => K (.str z))
  | .eql => Vl ((m.toList == n.toList)) fun z => K (.bool z)
  | .neq => Vl ((!(m.toList == n.toList))) fun z => K (.bool z)
  | _ => False
/-- Structs of one type are equal. -/
def EqOk (P : Program) (t : TypeId) (l l' : List SV) (b : Bool) : Prop :=
  ∀ (ρ : Nm) (w : World) (cs cs' : Array Value) (x y : Operand), VSs ρ l cs.toList → VSs ρ l' cs'.toList →
    (eqGuard .eql t x y (.agg cs) (.agg cs')).run P w = .ok () w ∧ (eqGuard .neq t x y (.agg cs) (.agg cs')).run P w = .ok () w ∧
    (binOp .eql t (.agg cs) (.agg cs')).run P w = .ok (.bool b) w ∧ (binOp .neq t (.agg cs) (.agg cs')).run P w = .ok (.bool !b) w
inductive Eqs (P : Program) (t : TypeId) (l l' : List SV) (K : Bool → Prop) : Prop
  | mk (b : Bool) (h : EqOk P t l l' b) (k : K b)
/-- A slice against nil. -/
inductive Ns (det : Bool) (n : Nat) (K : Bool → Prop) : Prop
  | any (hd : det = false) (h : ∀ b : Bool, (b = true → n = 0) → K b)
  | pos (hn : 0 < n) (k : K false)
def vBin (P : Program) (T : Tys) (det : Bool) (op : BinOp) (t : TypeId) (x y : TV) (K : SV → Prop) : Prop :=
  match x, y with
  | .a (.s (.int k m)), .a (.s (.int k' n)) => vInt op k m k' n K
  | .a (.s (.str m)), .a (.s (.str n)) => vStr op m n K
  | .a (.s (.bool m)), .a (.s (.bool n)) => (match T t with
    | some ty => ty.kind = .bool ∧ (match op with
      | .eql => Vl ((m == n)) fun z => K (.bool z)
      | .neq => Vl ((!(m == n))) fun z => K (.bool z)
      | _ => False)
    | none => False)
  | .a (.agg l), .a (.agg l') => (match op with
    | .eql => Eqs P t l l' fun b => K (.bool b)
    | .neq => Eqs P t l l' fun b => K (.bool !b)
    | _ => False)
  | .a (.s (.sl _ _ n)), .a (.s .nilsl) => (match T t with
    | some y => (match y.kind with
      | .slice _ => (match op with
        | .eql => Ns det n fun b => K (.bool b)
        | .neq => Ns det n fun b => Vl (!b) fun b => K (.bool b)
        | _ => False)
      | _ => False)
    | none => False)
  | .a (.s .nilsl), .a (.s .nilsl) => (match T t with
    | some y => (match y.kind with
      | .slice _ => (match op with
        | .eql => K (.bool true)
        | .neq => K (.bool false)
        | _ => False)
      | _ => False)
    | none => False)
  | _, _ => False
def vUn (op : UnOp) (x : TV) (K : SV → Prop) : Prop :=
  match op, x with
  | .not, .a (.s (.bool b)) => Vl ((!b)) fun z => K (.bool z)
  | .neg, .a (.s (.int k n)) => Vl (k.wrap (0 - n)) fun z => K (.int k z)
  | .xor, .a (.s (.int k n)) => Vl (bits .xor k (if k.signed then -1 else k.max) n) fun z => K (.int k z)
  | _, _ => False
def fpOk (hp : Hp) : List (Nat × Row) → Prop
  | [] => True
  | p :: l => hp p.1 = some p.2 ∧ fpOk hp l
theorem fpOk_mem {hp : Hp} {l : List (Nat × Row)} (h : fpOk hp l) : ∀ p ∈ l, hp p.1 = some p.2 := by
  induction l with
  | nil => intro p hp; cases hp
  | cons a l ih =>
    intro p hp
    rcases List.mem_cons.1 hp with rfl | hp
    · exact h.1
    · exact ih h.2 p hp
def RowM (mm : List Em) (k n0 i : Nat) (e : Em) (r rc : Row) : Prop :=
  rc.es = r.es ∧ (∀ (q : Nat) s, r.cells[q]? = some s → rc.cells[e.sh + q]? = some (renS mm k n0 s)) ∧ e.sh + r.cells.length ≤ rc.cells.length ∧
    (r.own = true → rc.own = true ∧ e.sh = 0 ∧ rc.cells.length = r.cells.length ∧ ∀ (j : Nat) (f : Em), mm[j]? = some f → j ≠ i → f.n ≠ e.n)
def RowsM (mm : List Em) (k n0 : Nat) : Nat → List Em → List Row → List (Nat × Row) → Prop
  | _, [], [], [] => True
  | i, e :: m, r :: H, p :: fp => p.1 = e.n ∧ RowM mm k n0 i e r p.2 ∧ RowsM mm k n0 (i + 1) m H fp
  | _, _, _, _ => False
theorem rowsM_len {mm : List Em} {k n0 : Nat} : ∀ {i : Nat} {m : List Em} {H : List Row} {fp : List (Nat × Row)}, RowsM mm k n0 i m H fp → m.length = H.length
  | _, [], [], [], _ => rfl
  | _, _ :: m, _ :: H, _ :: fp, h => by have := rowsM_len h.2.2; simp [this]
  | _, [], _ :: _, _, h => h.elim
  | _, [], [], _ :: _, h => h.elim
  | _, _ :: _, [], _, h => h.elim
  | _, _ :: _, _ :: _, [], h => h.elim
theorem rowsM_names {mm : List Em} {k n0 : Nat} : ∀ {i : Nat} {m : List Em} {H : List Row} {fp : List (Nat × Row)}, RowsM mm k n0 i m H fp → ∀ e ∈ m, ∃ p ∈ fp, p.1 = e.n
  | _, [], _, _, _ => fun e he => by cases he
  | _, x :: m, _ :: H, p :: fp, h => fun e he => by
    rcases List.mem_cons.1 he with rfl | he
    · exact ⟨p, by simp, h.1⟩
    · obtain ⟨q, h1, h2⟩ := rowsM_names h.2.2 e he
      exact ⟨q, by simp [h1], h2⟩
  | _, _ :: _, [], _, h => h.elim
  | _, _ :: _, _ :: _, [], h => h.elim
theorem rowsM_at' {mm : List Em} {k n0 : Nat} {hp : Hp} : ∀ {i : Nat} {m : List Em} {H : List Row} {fp : List (Nat × Row)}, RowsM mm k n0 i m H fp → (∀ p ∈ fp, hp p.1 = some p.2) →
    ∀ (j : Nat) (r : Row), H[j]? = some r → ∃ (e : Em) (rc : Row), m[j]? = some e ∧ hp e.n = some rc ∧ RowM mm k n0 (i + j) e r rc
  | _, [], [], _, _, _ => fun j r h => by cases h
  | i, e :: m, x :: H, p :: fp, h, hf => fun j r hj => by
    cases j with
    | zero => injection hj with hj; subst hj; exact ⟨e, p.2, rfl, by rw [← h.1]; exact hf p (by simp), h.2.1⟩
    | succ j =>
      obtain ⟨e', rc, h1, h2, h3⟩ := rowsM_at' h.2.2 (fun q hq => hf q (by simp [hq])) j r hj
      exact ⟨e', rc, h1, h2, by rw [show i + (j + 1) = i + 1 + j by omega]; exact h3⟩
  | _, [], _ :: _, _, h, _ => h.elim
  | _, _ :: _, [], _, h, _ => h.elim
  | _, _ :: _, _ :: _, [], h, _ => h.elim
theorem rowsM_at {m : List Em} {n0 : Nat} {H : List Row} {fp : List (Nat × Row)} (h : RowsM m H.length n0 0 m H fp) (hp : Hp) (hf : ∀ p ∈ fp, hp p.1 = some p.2) : RowsAt m n0 H hp := fun i r hi => by
  obtain ⟨e, rc, h1, h2, h3, h4, h5, h6⟩ := rowsM_at' h hf i r hi
  rw [Nat.zero_add] at h6
  exact ⟨e, rc, h1, h2, h3, h4, h5, h6⟩
/-- Values taken to their heads before they are handed on. -/
def fS (s : SV) (K : SV → Prop) : Prop := match s with
  | .unk => K .unk
  | .bool b => K (.bool b)
  | .int k n => K (.int k n)
  | .str s => K (.str s)
  | .nil => K .nil
  | .ptr i o => K (.ptr i o)
  | .nilsl => K .nilsl
  | .sl i o n => K (.sl i o n)
  | .fn f c => K (.fn f c)
theorem fS_iff (s : SV) (K : SV → Prop) : fS s K ↔ K s := by cases s <;> exact Iff.rfl
def fL : List SV → (List SV → Prop) → Prop
  | [], K => K []
  | s :: l, K => fS s fun s => fL l fun l => K (s :: l)
theorem fL_iff : ∀ (l : List SV) (K : List SV → Prop), fL l K ↔ K l
  | [], K => Iff.rfl
  | s :: l, K => by unfold fL; rw [fS_iff]; exact fL_iff l _
def fT (v : TV) (K : TV → Prop) : Prop := match v with
  | .unk => K .unk
  | .a x => (match x with
    | .s s => fS s fun s => K (.a (.s s))
    | .agg l => K (.a (.agg l)))
  | .tup l => K (.tup l)
theorem fT_iff (v : TV) (K : TV → Prop) : fT v K ↔ K v := by
  cases v with
  | unk => exact Iff.rfl
  | tup l => exact Iff.rfl
  | a x =>
    cases x with
    | s s => exact fS_iff s fun s => K (.a (.s s))
    | agg l => exact Iff.rfl
def fR (r : Row) (K : Bool → Nat → List SV → Prop) : Prop := match r with
  | ⟨o, e, c⟩ => K o e c
def fA (u : AV) (K : List SV → Prop) : Prop := match u with
  | .s x => K [x]
  | .agg l => K l
theorem fA_iff (u : AV) (K : List SV → Prop) : fA u K ↔ K u.cells := by cases u <;> exact Iff.rfl
inductive Cll (P : Program) (det : Bool) (f : FuncId) (l : List AV) (hp : Hp) (n0 : Nat) (K : KK) : Prop
  | mk (args : List AV) (H : List Row) (m : List Em) (fp : List (Nat × Row)) (Post : Res → Prop) (h1 : Fn P f args H Post) (h2 : l = args.map (renA m H.length n0)) (h3 : fpOk hp fp) (h4 : RowsM m H.length n0 0 m H fp)
    (h5 : ∀ R, Post R → R.nw.length ≤ stride ∧ ∀ p ∈ R.up, p.1 < H.length) (h6 : det = true → ∃ R, Post = (· = R)) (h7 : ∀ R, Post R → Vl (R.ef m H.length n0) fun e => K fp e)
def vCall (P : Program) (det : Bool) (f : FuncId) (l : List AV) (hp : Hp) (n0 : Nat) (K : KK) : Prop :=
  Cll P det f l hp n0 K
def vLen (T : Tys) (t : TypeId) (x : TV) (K : SV → Prop) : Prop :=
  match x with
  | .a (.s (.sl _ _ n)) => (match T t with | some y => (match y.kind with | .slice _ => K (.int .i64 n) | _ => False) | none => False)
  | .a (.s .nilsl) => (match T t with | some y => (match y.kind with | .slice _ => K (.int .i64 0) | _ => False) | none => False)
  | .a (.s (.str s)) => (match T t with | some y => (match y.kind with | .str => K (.int .i64 s.size) | _ => False) | none => False)
  | _ => False
def kindOfSrc (T : Tys) (tx : TypeId) (y : TV) : Prop :=
  match y with
  | .a (.s (.str _)) => (match T tx with | some z => z.kind = .str | none => False)
  | .a (.s .nilsl) | .a (.s (.sl _ _ _)) => (match T tx with | some z => (match z.kind with | .slice _ => True | _ => False) | none => False)
  | _ => False
/-- What an append reads: some rows, the number of elements, the cells. -/
def vSrc (hp : Hp) (es : Nat) (y : TV) (K : List (Nat × Row) → Nat → List SV → Prop) : Prop :=
  match y with
  | .a (.s .nilsl) => K [] 0 []
  | .a (.s (.sl j k m)) => Ge (hp j) fun r => Sk r.cells k (m * es) fun l => K [(j, r)] m l
  | .a (.s (.str s)) => Sd (es = 1) (K [] s.size (bytesS s))
  | _ => False
def vAppend (T : Tys) (hp : Hp) (n0 : Nat) (t tx : TypeId) (x y : TV) (K : KK) : Prop :=
  match T t with
  | some yt => (match yt.kind with
    | .slice e => (match T e with
      | some ye => Sd (kindOfSrc T tx y) (vSrc hp ye.size y fun fp m l => (match x with
        | .a (.s .nilsl) => Sd (m * ye.bytes ≤ 140737488355328 ∧ m ≤ 9223372036854775807) (K fp ⟨.a (.s (.sl n0 0 m)), [], [(n0, ⟨true, ye.size, l⟩)]⟩)
        | .a (.s (.sl i k n)) => Sd (k = 0) (Ge (hp i) fun r => Sd (r.own = true ∧ r.es = ye.size ∧ r.cells.length = n * ye.size ∧ (n + m) * ye.bytes ≤ 140737488355328 ∧ n + m ≤ 9223372036854775807)
            (Vl (n + m) fun n' => Vl (r.cells ++ l) fun c => K ((i, r) :: fp) ⟨.a (.s (.sl n0 0 n')), [(i, none)], [(n0, ⟨true, ye.size, c⟩)]⟩))
        | _ => False))
      | none => False)
    | _ => False)
  | none => False
def vSrcC (hp : Hp) (es : Nat) (y : TV) (n : Nat) (K : List (Nat × Row) → Nat → List SV → Prop) : Prop :=
  match y with
  | .a (.s .nilsl) => K [] 0 []
  | .a (.s (.sl j k m)) => Vl (min m n) fun q => Ge (hp j) fun r => Sk r.cells k (q * es) fun l => K [(j, r)] q l
  | .a (.s (.str s)) => Vl (min s.size n) fun q => Sd (es = 1) (K [] q ((bytesS s).take q))
  | _ => False
def vCopy (T : Tys) (hp : Hp) (t : TypeId) (x y : TV) (K : KK) : Prop :=
  match T t with
  | some yt => (match yt.kind with
    | .slice e => (match T e with
      | some ye => (match x with
        | .a (.s (.sl i k n)) => vSrcC hp ye.size y n fun fp q l => Ge (hp i) fun r => Sd (r.own = true ∧ k + l.length ≤ r.cells.length) (Vl (setAll r.cells k l) fun c => fR r fun o e _ => K ((i, r) :: fp) ⟨.a (.s (.int .i64 q)), [(i, some ⟨o, e, c⟩)], []⟩)
        | _ => False)
      | none => False)
    | _ => False)
  | none => False
def vConv (T : Tys) (hp : Hp) (s d : TypeId) (x : TV) (K : KK) : Prop :=
  match T s, T d with
  | some ys, some yd => (match x, yd.kind with
    | .a (.s (.int _ z)), .int k => Vl (k.wrap z) fun u => K [] (vs1 (.int k u))
    | .a (.s (.str z)), .str => K [] (vs1 (.str z))
    | .a (.s .nilsl), .str => (match ys.kind with
      | .slice e => (match T e with
        | some ye => (match ye.kind with
          | .int .u8 => K [] (vs1 (.str ByteArray.empty))
          | _ => False)
        | none => False)
      | _ => False)
    | .a (.s (.sl i k n)), .str => (match ys.kind with
      | .slice e => (match T e with
        | some ye => (match ye.kind with
          | .int .u8 => Ge (hp i) fun r => Sg r.cells k n fun l => Ge (toNums l) fun ns => K [(i, r)] (vs1 (.str (strOfNums ns)))
          | _ => False)
        | none => False)
      | _ => False)
    | _, _ => False)
  | _, _ => False
def vSlice (T : Tys) (hp : Hp) (t : TypeId) (x : TV) (lo hi : Option Int → Option Int) (K : KK) : Prop :=
  match T t with
  | some y => (match x, y.kind with
    | .a (.s (.str s)), .str => (match lo (some 0), hi (some s.size) with
      | some l, some h => Sd (0 ≤ l ∧ l ≤ h ∧ h ≤ s.size) (Vl (s.extract l.toNat h.toNat) fun z => K [] (vs1 (.str z)))
      | _, _ => False)
    | .a (.s (.sl i k n)), .slice e => (match T e, lo (some 0), hi (some n) with
      | some ye, some l, some h => Ge (hp i) fun r => Sd (r.es = ye.size ∧ 0 ≤ l ∧ l ≤ h ∧ h ≤ n) (Vl (k + l.toNat * ye.size) fun o' => Vl ((h - l).toNat) fun n' => K [(i, r)] (vs1 (.sl i o' n')))
      | _, _, _ => False)
    | .a (.s .nilsl), .slice e => (match T e, lo (some 0), hi (some 0) with
      | some _, some l, some h => Sd (l = 0 ∧ h = 0) (K [] (vs1 .nilsl))
      | _, _, _ => False)
    | _, _ => False)
  | none => False
/-- Zeros. -/
inductive Zs (ye : Ty) (n : Nat) (K : List SV → Prop) : Prop
  | mk (cells : List SV) (h : cells.length = n * ye.size ∧ ∀ (k : Nat) s, cells[k]? = some s → ye.zero[k % ye.size]? = some s) (k : K cells)
def vop (P : Program) (T : Tys) (det : Bool) (o : Oper) (tv : Operand → TV) (hp : Hp) (n0 : Nat) (K : KK) : Prop :=
  match o.op with
  | .move x => K [] ⟨tv x, [], []⟩
  | .assign x => K [] ⟨tv x, [], []⟩
  | .pick c x y => (match tv c with
    | .a (.s (.bool b)) => (match b with | true => K [] ⟨tv x, [], []⟩ | false => K [] ⟨tv y, [], []⟩)
    | _ => False)
  | .binOp op t x y _ => vBin P T det op t (tv x) (tv y) fun s => K [] (vs1 s)
  | .unOp op _ x => vUn op (tv x) fun s => K [] (vs1 s)
  | .alloc t => (match T t with | some y => fL y.zero fun z => K [] ⟨.a (.s (.ptr n0 0)), [], [(n0, ⟨true, 1, z⟩)]⟩ | none => False)
  | .box _ x => (match tv x with | .a u => fA u fun l => Sd (allKnown l = true) (K [] ⟨.a (.s (.ptr n0 0)), [], [(n0, ⟨true, 1, l⟩)]⟩) | _ => False)
  | .load t x => (match tv x with
    | .a (.s (.ptr i k)) => (match T t with
      | some y => (match y.kind.agg with
        | false => Ge (hp i) fun r => Ge (r.cells[k]?) fun s => K [(i, r)] (vs1 s)
        | true => Ge (hp i) fun r => Sg r.cells k y.size fun l => K [(i, r)] (vv (.agg l)))
      | none => False)
    | _ => False)
  | .store t x z => (match tv x, tv z with
    | .a (.s (.ptr i k)), .a u => (match T t with
      | some y => fA u fun l => Ge (hp i) fun r => Sd (l.length = y.size ∧ allKnown l = true ∧ r.own = true ∧ k + l.length ≤ r.cells.length) (Vl (setAll r.cells k l) fun c => fR r fun o e _ => K [(i, r)] ⟨.unk, [(i, some ⟨o, e, c⟩)], []⟩)
      | none => False)
    | _, _ => False)
  | .nilCheck x => (match tv x with
    | .a (.s (.ptr i k)) => K [] (vs1 (.ptr i k))
    | .a (.s (.fn (.func f) cap)) => K [] (vs1 (.fn (.func f) cap))
    | _ => False)
  | .fieldAddr t x f => (match tv x, T t with
    | .a (.s (.ptr i k)), some y => (match y.kind with
      | .struct fs => (match fs[f]? with
        | some p => (match T p.2 with
          | some yf => (match Nat.beq yf.size 0 with | false => K [] (vs1 (.ptr i (k + p.1))) | true => False)
          | none => False)
        | none => False)
      | _ => False)
    | _, _ => False)
  | .indexAddr t x ix => (match tv x, tv ix, T t with
    | .a (.s (.sl i k n)), .a (.s (.int _ z)), some y => (match y.kind with
      | .slice e => (match T e with
        | some ye => Sd (0 ≤ z ∧ z < n) (Vl (k + z.toNat * ye.size) fun o' => K [] (vs1 (.ptr i o')))
        | none => False)
      | _ => False)
    | .a (.s (.ptr i k)), .a (.s (.int _ z)), some y => (match y.kind with
      | .array n e => (match T e with
        | some ye => Sd (0 ≤ z ∧ z < n) (Vl (k + z.toNat * ye.size) fun o' => K [] (vs1 (.ptr i o')))
        | none => False)
      | _ => False)
    | _, _, _ => False)
  | .index t x ix => (match tv x, tv ix, T t with
    | .a (.s (.str s)), .a (.s (.int _ z)), some y => Sd (y.kind = .str ∧ 0 ≤ z) (Ge (s[z.toNat]?) fun b : UInt8 => K [] (vs1 (.int .u8 b.toNat)))
    | .a (.agg l), .a (.s (.int _ z)), some y => (match y.kind with
      | .array n e => (match T e with
        | some ye => Sd (0 ≤ z ∧ z < n) (Ge (partS ye l (z.toNat * ye.size)) fun u => K [] (vv u))
        | none => False)
      | _ => False)
    | _, _, _ => False)
  | .field t x f => (match tv x, T t with
    | .a (.agg l), some y => (match y.kind with
      | .struct fs => (match fs[f]? with
        | some p => (match T p.2 with
          | some yf => Ge (partS yf l p.1) fun u => K [] (vv u)
          | none => False)
        | none => False)
      | _ => False)
    | _, _ => False)
  | .extract x k => (match tv x with | .tup l => (match l[k]? with | some u => K [] (vv u) | none => False) | _ => False)
  | .build t parts => (match T t, partsS tv parts.toList with
    | some y, some ps => (match y.kind with
      | .struct fs => (match placesS T fs with | some pl => Ge (fillS (fun i => pl[i]?) y.zero ps) fun l => K [] (vv (.agg l)) | none => False)
      | .array _ e => (match T e with | some ye => Ge (fillS (fun i => some (i * ye.size, ye.size)) y.zero ps) fun l => K [] (vv (.agg l)) | none => False)
      | _ => False)
    | _, _ => False)
  | .buildSlice t n parts => (match T t, partsS tv parts.toList with
    | some y, some ps => (match y.kind with
      | .slice e => (match T e with
        | some ye => (match Nat.ble (n * ye.size) 16777216 with
          | true => Ge (fillS (fun i => some (i * ye.size, ye.size)) (List.replicate (n * ye.size) .unk) ps) fun l => Sd (l.length = n * ye.size) (K [] ⟨.a (.s (.sl n0 0 n)), [], [(n0, ⟨true, ye.size, l⟩)]⟩)
          | false => False)
        | none => False)
      | _ => False)
    | _, _ => False)
  | .makeSlice t x y => (match tv x, tv y, T t with
    | .a (.s (.int _ l)), .a (.s (.int _ c)), some yt => (match yt.kind with
      | .slice e => (match T e with
        | some ye => Sd (0 ≤ l ∧ l ≤ c ∧ ye.bytes * c ≤ 140737488355328 ∧ c ≤ 9223372036854775807) (Vl l.toNat fun n => Zs ye n fun cells => K [] ⟨.a (.s (.sl n0 0 n)), [], [(n0, ⟨true, ye.size, cells⟩)]⟩)
        | none => False)
      | _ => False)
    | _, _, _ => False)
  | .slice t x lo hi none => vSlice T hp t (tv x) (fun d => bndS tv (d.getD 0) lo) (fun d => bndS tv (d.getD 0) hi) K
  | .convert s d x => vConv T hp s d (tv x) K
  | .makeFunc f first cs => (match first.toList with
    | [] => (match capsS tv cs.toList with | some cap => K [] (vs1 (.fn f cap)) | none => False)
    | _ => False)
  | .call c => (match c.callee with
    | .value fo => (match tv fo, avs tv c.args.toList with
      | .a (.s (.fn (.func f) cap)), some l => vCall P det f (l ++ capA cap) hp n0 K
      | _, _ => False)
    | .builtin .len => (match c.args.toList, c.argTypes.toList with | [x], [t] => vLen T t (tv x) fun s => K [] (vs1 s) | _, _ => False)
    | .builtin .append => (match c.args.toList, c.argTypes.toList with | [x, y], [t, tx] => vAppend T hp n0 t tx (tv x) (tv y) K | _, _ => False)
    | .builtin .copy => (match c.args.toList, c.argTypes.toList with | [x, y], [t, _] => vCopy T hp t (tv x) (tv y) K | _, _ => False)
    | .builtin .min => (match c.args.toList with
      | x :: l => (match tv x with
        | .a (.s (.int k _)) => (match intsS tv k (x :: l) with | some (z :: r) => Vl (minL z r) fun u => K [] (vs1 (.int k u)) | _ => False)
        | _ => False)
      | _ => False)
    | _ => False)
  | _ => False
end Go.Proofs.Ytffhbadeoadbkaa
