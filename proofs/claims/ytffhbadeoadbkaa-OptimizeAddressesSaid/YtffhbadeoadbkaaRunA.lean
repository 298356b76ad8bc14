/- Operations, reckoned: the evaluator of one operation as a function, and that what it finds is what the walk may use. -/
import Derived.Test.YtffhbadeoadbkaaAbsS
import Derived.Test.YtffhbadeoadbkaaEqA
namespace Go.Proofs.Ytffhbadeoadbkaa
open Go Go.RowKit
set_option linter.unusedSimpArgs false
set_option linter.unusedVariables false

variable {α : Type}
abbrev KO (α : Type) := List (Nat × Row) → Ef → Option α
def okB (b : Bool) (k : Option α) : Option α := match b with
  | true => k
  | false => none
theorem okB_some {b : Bool} {k : Option α} {x : α} (h : okB b k = some x) : b = true ∧ k = some x := by
  cases b
  · cases h
  · exact ⟨rfl, h⟩
def okO {β : Type} (e : Option β) (K : β → Option α) : Option α := match e with
  | some b => K b
  | none => none
theorem okO_some {β : Type} {e : Option β} {K : β → Option α} {x : α} (h : okO e K = some x) : ∃ b, e = some b ∧ K b = some x := by
  cases e with
  | none => cases h
  | some b => exact ⟨b, rfl, h⟩
def dInt (op : BinOp) (k : IntKind) (m : Int) (k' : IntKind) (n : Int) (K : SV → Option α) : Option α :=
  match op with
  | .shl => okB (decide (0 ≤ n)) (K (.int k (k.wrap (m * 2 ^ min n.toNat k.bits))))
  | .shr => okB (decide (0 ≤ n)) (K (.int k (m / 2 ^ min n.toNat k.bits)))
  | .quo => okB (kEq k k') (okB (!(decide (n = 0))) (K (.int k (k.wrap (m.tdiv n)))))
  | .rem => okB (kEq k k') (okB (!(decide (n = 0))) (K (.int k (m.tmod n))))
  | .add => okB (kEq k k') (K (.int k (k.wrap (m + n))))
  | .sub => okB (kEq k k') (K (.int k (k.wrap (m - n))))
  | .mul => okB (kEq k k') (K (.int k (k.wrap (m * n))))
  | .and => okB (kEq k k') (K (.int k (bits .and k m n)))
  | .or => okB (kEq k k') (K (.int k (bits .or k m n)))
  | .xor => okB (kEq k k') (K (.int k (bits .xor k m n)))
  | .andNot => okB (kEq k k') (K (.int k (bits .andNot k m n)))
  | .eql => okB (kEq k k') (K (.bool (m == n)))
  | .neq => okB (kEq k k') (K (.bool (m != n)))
  | .lss => okB (kEq k k') (K (.bool (decide (m < n))))
  | .leq => okB (kEq k k') (K (.bool (decide (m ≤ n))))
  | .gtr => okB (kEq k k') (K (.bool (decide (m > n))))
  | .geq => okB (kEq k k') (K (.bool (decide (m ≥ n))))
theorem dInt_ok {op : BinOp} {k k' : IntKind} {m n : Int} {K : SV → Option α} {K' : SV → Prop} {x : α} (hK : ∀ s, K s = some x → K' s) (h : dInt op k m k' n K = some x) : vInt op k m k' n K' := by
  cases op <;> simp only [dInt, vInt, reduceCtorEq] at h ⊢
  case shl => obtain ⟨h1, h2⟩ := okB_some h; exact ⟨of_decide_eq_true h1, _, rfl, hK _ h2⟩
  case shr => obtain ⟨h1, h2⟩ := okB_some h; exact ⟨of_decide_eq_true h1, _, rfl, hK _ h2⟩
  case quo => obtain ⟨h1, h2⟩ := okB_some h; obtain ⟨h2, h3⟩ := okB_some h2; exact ⟨kEq_ok h1, by simpa using h2, _, rfl, hK _ h3⟩
  case rem => obtain ⟨h1, h2⟩ := okB_some h; obtain ⟨h2, h3⟩ := okB_some h2; exact ⟨kEq_ok h1, by simpa using h2, _, rfl, hK _ h3⟩
  all_goals (obtain ⟨h1, h2⟩ := okB_some h; exact ⟨kEq_ok h1, _, rfl, hK _ h2⟩)
def bcat (m n : ByteArray) : ByteArray := ⟨⟨m.data.toList ++ n.data.toList⟩⟩
theorem bcat_eq (m n : ByteArray) : bcat m n = m ++ n := by
  unfold bcat
  have : (m ++ n).data = m.data ++ n.data := ByteArray.data_append
  have h2 : m ++ n = ⟨(m ++ n).data⟩ := rfl
  rw [h2, this]
  congr 1
def bsub (s : ByteArray) (l h : Nat) : ByteArray := ⟨⟨(s.data.toList.drop l).take (h - l)⟩⟩
theorem bsub_eq (s : ByteArray) (l h : Nat) : bsub s l h = s.extract l h := by
  unfold bsub
  have : (s.extract l h).data = s.data.extract l h := ByteArray.data_extract
  have h2 : s.extract l h = ⟨(s.extract l h).data⟩ := rfl
  rw [h2, this]
  congr 1
  apply Array.ext'
  simp [List.take_drop]
def dStr (op : BinOp) (m n : ByteArray) (K : SV → Option α) : Option α :=
  match op with
  | .add => okB (Nat.ble (m.size + n.size) 9223372036854775807) (K (.str (bcat m n)))
  | .eql => K (.bool (bytesEq m.data.toList n.data.toList))
  | .neq => K (.bool (!(bytesEq m.data.toList n.data.toList)))
  | _ => none
theorem dStr_ok {op : BinOp} {m n : ByteArray} {K : SV → Option α} {K' : SV → Prop} {x : α} (hK : ∀ s, K s = some x → K' s) (h : dStr op m n K = some x) : vStr op m n K' := by
  cases op <;> simp only [dStr, vStr, reduceCtorEq] at h ⊢
  case add => obtain ⟨h1, h2⟩ := okB_some h; exact ⟨Nat.le_of_ble_eq_true h1, _, rfl, by rw [← bcat_eq]; exact hK _ h2⟩
  case eql => exact ⟨_, rfl, by rw [ByteArray.toList_eq, ByteArray.toList_eq, ← bytesEq_eq]; exact hK _ h⟩
  case neq => exact ⟨_, rfl, by rw [ByteArray.toList_eq, ByteArray.toList_eq, ← bytesEq_eq]; exact hK _ h⟩
/-- The structs and arrays whose equality is reckoned cell by cell. -/
abbrev EqT (P : Program) := { l : TypeId → Option (List SK) // ∀ t ks, l t = some ks → ∀ l1 l2 b, eqCells ks l1 l2 = some b → EqOk P t l1 l2 b }
def dBin {P : Program} (E : EqT P) (T : Tys) (op : BinOp) (t : TypeId) (x y : TV) (K : SV → Option α) : Option α :=
  match x, y with
  | .a (.s (.int k m)), .a (.s (.int k' n)) => dInt op k m k' n K
  | .a (.s (.str m)), .a (.s (.str n)) => dStr op m n K
  | .a (.s (.bool m)), .a (.s (.bool n)) => (match T t with
    | some ty => (match ty.kind with
      | .bool => (match op with
        | .eql => K (.bool (m == n))
        | .neq => K (.bool (!(m == n)))
        | _ => none)
      | _ => none)
    | none => none)
  | .a (.agg l), .a (.agg l') => okO (E.1 t) fun ks => okO (eqCells ks l l') fun b => (match op with
    | .eql => K (.bool b)
    | .neq => K (.bool !b)
    | _ => none)
  | .a (.s (.sl _ _ n)), .a (.s .nilsl) => okO (T t) fun y => (match y.kind with
    | .slice _ => okB (Nat.blt 0 n) (match op with
      | .eql => K (.bool false)
      | .neq => K (.bool true)
      | _ => none)
    | _ => none)
  | .a (.s .nilsl), .a (.s .nilsl) => okO (T t) fun y => (match y.kind with
    | .slice _ => (match op with
      | .eql => K (.bool true)
      | .neq => K (.bool false)
      | _ => none)
    | _ => none)
  | _, _ => none
theorem dBin_ok {P : Program} {det : Bool} {E : EqT P} {T : Tys} {op : BinOp} {t : TypeId} {v w : TV} {K : SV → Option α} {K' : SV → Prop} {x : α} (hK : ∀ s, K s = some x → K' s) (h : dBin E T op t v w K = some x) : vBin P T det op t v w K' := by
  unfold dBin at h
  unfold vBin
  split at h
  · exact dInt_ok hK h
  · exact dStr_ok hK h
  · split at h
    · rename_i ty hty
      rw [hty]
      split at h
      · rename_i hk
        refine ⟨hk, ?_⟩
        split at h
        · exact ⟨_, rfl, hK _ h⟩
        · exact ⟨_, rfl, hK _ h⟩
        · cases h
      · cases h
    · cases h
  · obtain ⟨ks, h1, h2⟩ := okO_some h
    obtain ⟨b, h4, h3⟩ := okO_some h2
    split at h3
    · exact ⟨b, E.2 t ks h1 _ _ b h4, hK _ h3⟩
    · exact ⟨b, E.2 t ks h1 _ _ b h4, hK _ h3⟩
    · cases h3
  · obtain ⟨y, h1, h2⟩ := okO_some h
    rw [h1]
    split at h2
    · rename_i hk
      simp only [hk]
      obtain ⟨h3, h4⟩ := okB_some h2
      have h3 := Nat.le_of_ble_eq_true h3
      split at h4
      · exact .pos h3 (hK _ h4)
      · exact .pos h3 ⟨_, rfl, hK _ h4⟩
      · cases h4
    · cases h2
  · obtain ⟨y, h1, h2⟩ := okO_some h
    rw [h1]
    split at h2
    · rename_i hk
      simp only [hk]
      split at h2
      · exact hK _ h2
      · exact hK _ h2
      · cases h2
    · cases h2
  · cases h
def dUn (op : UnOp) (x : TV) (K : SV → Option α) : Option α :=
  match op, x with
  | .not, .a (.s (.bool b)) => K (.bool (!b))
  | .neg, .a (.s (.int k n)) => K (.int k (k.wrap (0 - n)))
  | .xor, .a (.s (.int k n)) => K (.int k (bits .xor k (if k.signed then -1 else k.max) n))
  | _, _ => none
theorem dUn_ok {op : UnOp} {v : TV} {K : SV → Option α} {K' : SV → Prop} {x : α} (hK : ∀ s, K s = some x → K' s) (h : dUn op v K = some x) : vUn op v K' := by
  unfold dUn at h
  unfold vUn
  split at h
  · exact ⟨_, rfl, hK _ h⟩
  · exact ⟨_, rfl, hK _ h⟩
  · exact ⟨_, rfl, hK _ h⟩
  · cases h
def dLen (T : Tys) (t : TypeId) (x : TV) (K : SV → Option α) : Option α :=
  match x with
  | .a (.s (.sl _ _ n)) => (match T t with | some y => (match y.kind with | .slice _ => K (.int .i64 n) | _ => none) | none => none)
  | .a (.s .nilsl) => (match T t with | some y => (match y.kind with | .slice _ => K (.int .i64 0) | _ => none) | none => none)
  | .a (.s (.str s)) => (match T t with | some y => (match y.kind with | .str => K (.int .i64 s.size) | _ => none) | none => none)
  | _ => none
theorem dLen_ok {T : Tys} {t : TypeId} {v : TV} {K : SV → Option α} {K' : SV → Prop} {x : α} (hK : ∀ s, K s = some x → K' s) (h : dLen T t v K = some x) : vLen T t v K' := by
  unfold dLen at h
  unfold vLen
  split at h
  all_goals first
    | (cases h; done)
    | (split at h
       · rename_i y hy
         rw [hy]
         split at h
         · rename_i hk; simp only [hk]; exact hK _ h
         · cases h
       · cases h)
def kSrc (T : Tys) (tx : TypeId) (y : TV) : Bool :=
  match y with
  | .a (.s (.str _)) => (match T tx with | some z => (match z.kind with | .str => true | _ => false) | none => false)
  | .a (.s .nilsl) | .a (.s (.sl _ _ _)) => (match T tx with | some z => (match z.kind with | .slice _ => true | _ => false) | none => false)
  | _ => false
theorem kSrc_ok {T : Tys} {tx : TypeId} {y : TV} (h : kSrc T tx y = true) : kindOfSrc T tx y := by
  unfold kSrc at h
  unfold kindOfSrc
  split at h
  all_goals first
    | (cases h; done)
    | (split at h
       · rename_i z hz
         rw [hz]
         split at h
         · rename_i hk; first | exact hk | (simp only [hk])
         · cases h
       · cases h)
def dSeg (cells : List SV) (o n : Nat) (K : List SV → Option α) : Option α := okB (Nat.ble (o + n) cells.length) (K ((cells.drop o).take n))
theorem dSeg_ok {cells : List SV} {o n : Nat} {K : List SV → Option α} {x : α} (h : dSeg cells o n K = some x) : ∃ l, (l.length = n ∧ ∀ (j : Nat) s, l[j]? = some s → cells[o + j]? = some s) ∧ K l = some x := by
  obtain ⟨h1, h2⟩ := okB_some h
  have h1 := Nat.le_of_ble_eq_true h1
  refine ⟨_, ⟨by simp; omega, fun j s hs => ?_⟩, h2⟩
  rw [List.getElem?_take] at hs
  split at hs
  · rw [List.getElem?_drop] at hs; exact hs
  · cases hs
def dSk (cells : List SV) (o n : Nat) (K : List SV → Option α) : Option α := dSeg cells o n fun l => okB (allKnown l) (K l)
theorem dSk_ok {cells : List SV} {o n : Nat} {K : List SV → Option α} {x : α} (h : dSk cells o n K = some x) : ∃ l, (l.length = n ∧ allKnown l = true ∧ ∀ (j : Nat) s, l[j]? = some s → cells[o + j]? = some s) ∧ K l = some x := by
  obtain ⟨l, ⟨h1, h2⟩, h3⟩ := dSeg_ok h
  obtain ⟨h3, h4⟩ := okB_some h3
  exact ⟨l, ⟨h1, h3, h2⟩, h4⟩
def dSrc (hp : Hp) (es : Nat) (y : TV) (K : List (Nat × Row) → Nat → List SV → Option α) : Option α :=
  match y with
  | .a (.s .nilsl) => K [] 0 []
  | .a (.s (.sl j k m)) => okO (hp j) fun r => dSk r.cells k (m * es) fun l => K [(j, r)] m l
  | .a (.s (.str s)) => okB (Nat.beq es 1) (K [] s.size (bytesS s))
  | _ => none
theorem dSrc_ok {hp : Hp} {es : Nat} {y : TV} {K : List (Nat × Row) → Nat → List SV → Option α} {K' : List (Nat × Row) → Nat → List SV → Prop} {x : α} (hK : ∀ a b c, K a b c = some x → K' a b c) (h : dSrc hp es y K = some x) : vSrc hp es y K' := by
  unfold dSrc at h
  unfold vSrc
  split at h
  · exact hK _ _ _ h
  · obtain ⟨r, h1, h2⟩ := okO_some h
    obtain ⟨l, h3, h4⟩ := dSk_ok h2
    exact ⟨r, h1, l, h3, hK _ _ _ h4⟩
  · obtain ⟨h1, h2⟩ := okB_some h
    exact ⟨Nat.eq_of_beq_eq_true h1, hK _ _ _ h2⟩
  · cases h
def dAppend (T : Tys) (hp : Hp) (n0 : Nat) (t tx : TypeId) (x y : TV) (K : KO α) : Option α :=
  okO (T t) fun yt => (match yt.kind with
    | .slice e => okO (T e) fun ye => okB (kSrc T tx y) (dSrc hp ye.size y fun fp m l => (match x with
        | .a (.s .nilsl) => okB (Nat.ble (m * ye.bytes) 140737488355328 && Nat.ble m 9223372036854775807) (K fp ⟨.a (.s (.sl n0 0 m)), [], [(n0, ⟨true, ye.size, l⟩)]⟩)
        | .a (.s (.sl i k n)) => okB (Nat.beq k 0) (okO (hp i) fun r => okB (r.own && Nat.beq r.es ye.size && Nat.beq r.cells.length (n * ye.size) && Nat.ble ((n + m) * ye.bytes) 140737488355328 && Nat.ble (n + m) 9223372036854775807)
            (K ((i, r) :: fp) ⟨.a (.s (.sl n0 0 (n + m))), [(i, none)], [(n0, ⟨true, ye.size, r.cells ++ l⟩)]⟩))
        | _ => none))
    | _ => none)
theorem dAppend_ok {T : Tys} {hp : Hp} {n0 : Nat} {t tx : TypeId} {v w : TV} {K : KO α} {K' : KK} {x : α} (hK : ∀ a b, K a b = some x → K' a b) (h : dAppend T hp n0 t tx v w K = some x) : vAppend T hp n0 t tx v w K' := by
  unfold dAppend at h
  unfold vAppend
  obtain ⟨yt, h1, h2⟩ := okO_some h
  rw [h1]
  split at h2
  · rename_i e hk
    simp only [hk]
    obtain ⟨ye, h3, h4⟩ := okO_some h2
    rw [h3]
    obtain ⟨h4, h5⟩ := okB_some h4
    refine ⟨kSrc_ok h4, dSrc_ok (fun a b c hq => ?_) h5⟩
    split at hq
    · obtain ⟨q1, q2⟩ := okB_some hq
      simp only [Bool.and_eq_true] at q1
      exact ⟨⟨Nat.le_of_ble_eq_true q1.1, Nat.le_of_ble_eq_true q1.2⟩, hK _ _ q2⟩
    · obtain ⟨q1, q2⟩ := okB_some hq
      obtain ⟨r, q2, q3⟩ := okO_some q2
      obtain ⟨q3, q4⟩ := okB_some q3
      simp only [Bool.and_eq_true] at q3
      exact ⟨Nat.eq_of_beq_eq_true q1, r, q2, ⟨q3.1.1.1.1, Nat.eq_of_beq_eq_true q3.1.1.1.2, Nat.eq_of_beq_eq_true q3.1.1.2, Nat.le_of_ble_eq_true q3.1.2, Nat.le_of_ble_eq_true q3.2⟩, _, rfl, _, rfl, hK _ _ q4⟩
    · cases hq
  · cases h2
def dSrcC (hp : Hp) (es : Nat) (y : TV) (n : Nat) (K : List (Nat × Row) → Nat → List SV → Option α) : Option α :=
  match y with
  | .a (.s .nilsl) => K [] 0 []
  | .a (.s (.sl j k m)) => okO (hp j) fun r => dSk r.cells k (min m n * es) fun l => K [(j, r)] (min m n) l
  | .a (.s (.str s)) => okB (Nat.beq es 1) (K [] (min s.size n) ((bytesS s).take (min s.size n)))
  | _ => none
theorem dSrcC_ok {hp : Hp} {es n : Nat} {y : TV} {K : List (Nat × Row) → Nat → List SV → Option α} {K' : List (Nat × Row) → Nat → List SV → Prop} {x : α} (hK : ∀ a b c, K a b c = some x → K' a b c) (h : dSrcC hp es y n K = some x) : vSrcC hp es y n K' := by
  unfold dSrcC at h
  unfold vSrcC
  split at h
  · exact hK _ _ _ h
  · obtain ⟨r, h1, h2⟩ := okO_some h
    obtain ⟨l, h3, h4⟩ := dSk_ok h2
    exact ⟨_, rfl, r, h1, l, h3, hK _ _ _ h4⟩
  · obtain ⟨h1, h2⟩ := okB_some h
    exact ⟨_, rfl, Nat.eq_of_beq_eq_true h1, hK _ _ _ h2⟩
  · cases h
def dCopy (T : Tys) (hp : Hp) (t : TypeId) (x y : TV) (K : KO α) : Option α :=
  okO (T t) fun yt => (match yt.kind with
    | .slice e => okO (T e) fun ye => (match x with
        | .a (.s (.sl i k n)) => dSrcC hp ye.size y n fun fp q l => okO (hp i) fun r => okB (r.own && Nat.ble (k + l.length) r.cells.length) (K ((i, r) :: fp) ⟨.a (.s (.int .i64 q)), [(i, some ⟨r.own, r.es, setAll r.cells k l⟩)], []⟩)
        | _ => none)
    | _ => none)
theorem dCopy_ok {T : Tys} {hp : Hp} {t : TypeId} {v w : TV} {K : KO α} {K' : KK} {x : α} (hK : ∀ a b, K a b = some x → K' a b) (h : dCopy T hp t v w K = some x) : vCopy T hp t v w K' := by
  unfold dCopy at h
  unfold vCopy
  obtain ⟨yt, h1, h2⟩ := okO_some h
  rw [h1]
  split at h2
  · rename_i e hk
    simp only [hk]
    obtain ⟨ye, h3, h4⟩ := okO_some h2
    rw [h3]
    split at h4
    · refine dSrcC_ok (fun a b c hq => ?_) h4
      obtain ⟨r, q2, q3⟩ := okO_some hq
      obtain ⟨q3, q4⟩ := okB_some q3
      simp only [Bool.and_eq_true] at q3
      exact ⟨r, q2, ⟨q3.1, Nat.le_of_ble_eq_true q3.2⟩, _, rfl, hK _ _ q4⟩
    · cases h4
  · cases h2
def dConv (T : Tys) (hp : Hp) (s d : TypeId) (x : TV) (K : KO α) : Option α :=
  okO (T s) fun ys => okO (T d) fun yd => (match x, yd.kind with
    | .a (.s (.int _ z)), .int k => K [] (vs1 (.int k (k.wrap z)))
    | .a (.s (.str z)), .str => K [] (vs1 (.str z))
    | .a (.s .nilsl), .str => (match ys.kind with
      | .slice e => okO (T e) fun ye => (match ye.kind with
        | .int .u8 => K [] (vs1 (.str ByteArray.empty))
        | _ => none)
      | _ => none)
    | .a (.s (.sl i k n)), .str => (match ys.kind with
      | .slice e => okO (T e) fun ye => (match ye.kind with
        | .int .u8 => okO (hp i) fun r => dSeg r.cells k n fun l => okO (toNums l) fun ns => K [(i, r)] (vs1 (.str (strOfNums ns)))
        | _ => none)
      | _ => none)
    | _, _ => none)
theorem dConv_ok {T : Tys} {hp : Hp} {s d : TypeId} {v : TV} {K : KO α} {K' : KK} {x : α} (hK : ∀ a b, K a b = some x → K' a b) (h : dConv T hp s d v K = some x) : vConv T hp s d v K' := by
  unfold dConv at h
  unfold vConv
  obtain ⟨ys, h1, h2⟩ := okO_some h
  obtain ⟨yd, h3, h4⟩ := okO_some h2
  rw [h1, h3]
  split at h4
  · rename_i hk; simp only [hk]; exact ⟨_, rfl, hK _ _ h4⟩
  · rename_i hk; simp only [hk]; exact hK _ _ h4
  · rename_i hk
    simp only [hk]
    split at h4
    · rename_i e he
      simp only [he]
      obtain ⟨ye, h5, h6⟩ := okO_some h4
      rw [h5]
      split at h6
      · rename_i hu; simp only [hu]; exact hK _ _ h6
      · cases h6
    · cases h4
  · rename_i hk
    simp only [hk]
    split at h4
    · rename_i e he
      simp only [he]
      obtain ⟨ye, h5, h6⟩ := okO_some h4
      rw [h5]
      split at h6
      · rename_i hu
        simp only [hu]
        obtain ⟨r, h7, h8⟩ := okO_some h6
        obtain ⟨l, h9, h10⟩ := dSeg_ok h8
        obtain ⟨ns, h11, h12⟩ := okO_some h10
        exact ⟨r, h7, l, h9, ns, h11, hK _ _ h12⟩
      · cases h6
    · cases h4
  · cases h4
def dSlice (T : Tys) (hp : Hp) (t : TypeId) (x : TV) (lo hi : Option Int → Option Int) (K : KO α) : Option α :=
  okO (T t) fun y => (match x, y.kind with
    | .a (.s (.str s)), .str => okO (lo (some 0)) fun l => okO (hi (some s.size)) fun h => okB (decide (0 ≤ l) && decide (l ≤ h) && decide (h ≤ s.size)) (K [] (vs1 (.str (bsub s l.toNat h.toNat))))
    | .a (.s (.sl i k n)), .slice e => okO (T e) fun ye => okO (lo (some 0)) fun l => okO (hi (some n)) fun h => okO (hp i) fun r => okB (Nat.beq r.es ye.size && decide (0 ≤ l) && decide (l ≤ h) && decide (h ≤ n)) (K [(i, r)] (vs1 (.sl i (k + l.toNat * ye.size) (h - l).toNat)))
    | .a (.s .nilsl), .slice e => okO (T e) fun _ => okO (lo (some 0)) fun l => okO (hi (some 0)) fun h => okB (decide (l = 0) && decide (h = 0)) (K [] (vs1 .nilsl))
    | _, _ => none)
theorem dSlice_ok {T : Tys} {hp : Hp} {t : TypeId} {v : TV} {lo hi : Option Int → Option Int} {K : KO α} {K' : KK} {x : α} (hK : ∀ a b, K a b = some x → K' a b) (h : dSlice T hp t v lo hi K = some x) : vSlice T hp t v lo hi K' := by
  unfold dSlice at h
  unfold vSlice
  obtain ⟨y, h1, h2⟩ := okO_some h
  rw [h1]
  split at h2
  · rename_i hk
    simp only [hk]
    obtain ⟨l, h3, h4⟩ := okO_some h2
    obtain ⟨q, h5, h6⟩ := okO_some h4
    obtain ⟨h6, h7⟩ := okB_some h6
    simp only [Bool.and_eq_true, decide_eq_true_eq] at h6
    rw [h3, h5]
    exact ⟨⟨h6.1.1, h6.1.2, h6.2⟩, _, rfl, by rw [← bsub_eq]; exact hK _ _ h7⟩
  · rename_i hk
    simp only [hk]
    obtain ⟨ye, h3, h4⟩ := okO_some h2
    obtain ⟨l, h5, h6⟩ := okO_some h4
    obtain ⟨q, h7, h8⟩ := okO_some h6
    obtain ⟨r, h9, h10⟩ := okO_some h8
    obtain ⟨h10, h11⟩ := okB_some h10
    simp only [Bool.and_eq_true, decide_eq_true_eq] at h10
    rw [h3, h5, h7]
    exact ⟨r, h9, ⟨Nat.eq_of_beq_eq_true h10.1.1.1, h10.1.1.2, h10.1.2, h10.2⟩, _, rfl, _, rfl, hK _ _ h11⟩
  · rename_i hk
    simp only [hk]
    obtain ⟨ye, h3, h4⟩ := okO_some h2
    obtain ⟨l, h5, h6⟩ := okO_some h4
    obtain ⟨q, h7, h8⟩ := okO_some h6
    obtain ⟨h10, h11⟩ := okB_some h8
    simp only [Bool.and_eq_true, decide_eq_true_eq] at h10
    rw [h3, h5, h7]
    exact ⟨h10, hK _ _ h11⟩
  · cases h2
end Go.Proofs.Ytffhbadeoadbkaa
