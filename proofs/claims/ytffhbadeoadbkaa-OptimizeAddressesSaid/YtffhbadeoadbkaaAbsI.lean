/- What one operation does, said of the abstract machine: copy, make, slice literals, conversions of bytes. -/
import Derived.Test.YtffhbadeoadbkaaAbsH
import Derived.Laws.BytesArg
namespace Go.Proofs.Ytffhbadeoadbkaa
open Go Go.RowKit
variable {P : Program} {o : Oper} {tv : Operand → TV} {n0 : Nat}

theorem sem_make {T : Tys} (hT : TysOk P T) (t e : TypeId) (x y : Operand) (yt ye : Ty) (k1 k2 : IntKind) (l c : Int) (ho : o.op = .makeSlice t x y) (hx : tv x = .a (.s (.int k1 l))) (hy : tv y = .a (.s (.int k2 c))) (hyt : T t = some yt) (hk : yt.kind = .slice e) (hye : T e = some ye)
    (h0 : 0 ≤ l) (h1 : l ≤ c) (hb : ye.bytes * c ≤ 140737488355328) (h63 : c ≤ 9223372036854775807) (cells : List SV) (hlen : cells.length = l.toNat * ye.size) (hz : ∀ (k : Nat) s, cells[k]? = some s → ye.zero[k % ye.size]? = some s) :
    SemOp P o tv n0 [] (· = ⟨.a (.s (.sl n0 0 l.toNat)), [], [(n0, ⟨true, ye.size, cells⟩)]⟩) :=
  SemOp.mk fun F ρ hp a w g1 _ _ => by
    have e1 : a.eval x = .int k1 l := eval2 g1 (by rw [ho]; simp [Op.operands]) hx
    have e2 : a.eval y = .int k2 c := eval2 g1 (by rw [ho]; simp [Op.operands]) hy
    have hu := (hT t yt hyt).sl hk
    obtain ⟨de, ie, z, q1, q2, q3, q4, _, q6, q7, q8⟩ := hT e ye hye
    have hr := run_make (P := P) w t e ie z hu q2 q6 k1 k2 l c h0 h1 (by rw [q4]; omega) h63
    have hzs : z.cells.size = ye.size := by rw [← q8, ← q7]; simp
    refine ⟨.slice (some ⟨w.heap.size, 0, none⟩) l.toNat c.toNat, madeCells z.cells (c.toNat * ie.size), e, w, ?_, ?_, ?_, rfl, rfl, rfl, rfl, ?_⟩
    rotate_left 3
    · unfold execOp; rw [ho]
      simp only [e1, e2, Sem.run_bind, hr, Result.andThen_ok]
      rfl
    · rw [size_madeCells, hlen, q3]; exact Nat.mul_le_mul_right _ (by omega)
    · intro k s hs
      have hkl : k < cells.length := (List.getElem?_eq_some_iff.1 hs).1
      have hpos : 0 < ye.size := by
        rcases Nat.eq_zero_or_pos ye.size with h | h
        · rw [h, Nat.mul_zero] at hlen; omega
        · exact h
      have hz1 := hz k s hs
      obtain ⟨v, p1, p2⟩ := (absSs_ok ρ z.cells.toList).2 _ s (by rw [q7]; exact hz1)
      refine ⟨v, ?_, p2⟩
      have hkc : k < c.toNat * ie.size := by
        rw [q3]; have : l.toNat * ye.size ≤ c.toNat * ye.size := Nat.mul_le_mul_right _ (by omega); omega
      have p1' : z.cells[k % ye.size]? = some v := by simpa using p1
      unfold madeCells
      rw [Array.getElem?_map, Array.getElem?_range, if_pos hkc, Option.map_some, hzs, getElem!_pos z.cells (k % ye.size) (by rw [hzs]; exact Nat.mod_lt _ hpos)]
      rw [Array.getElem?_eq_getElem (by rw [hzs]; exact Nat.mod_lt _ hpos)] at p1'
      exact p1'
    · intro ρ' _ hn
      refine ⟨_, _, rfl, by omega, .inl ⟨_, hn, .inl ⟨rfl, ?_⟩⟩⟩
      rw [size_madeCells, q3]; simp
theorem sem_buildSlice {T : Tys} (hT : TysOk P T) (t e : TypeId) (n : Nat) (parts : Array (Nat × Operand)) (yt ye : Ty) (ps : List (Nat × List SV)) (l : List SV) (ho : o.op = .buildSlice t n parts) (hyt : T t = some yt) (hk : yt.kind = .slice e) (hye : T e = some ye) (hps : partsS tv parts.toList = some ps)
    (hn : Nat.ble (n * ye.size) 16777216 = true) (hf : fillS (fun i => some (i * ye.size, ye.size)) (List.replicate (n * ye.size) .unk) ps = some l) (hl : l.length = n * ye.size) :
    SemOp P o tv n0 [] (· = ⟨.a (.s (.sl n0 0 n)), [], [(n0, ⟨true, ye.size, l⟩)]⟩) :=
  SemOp.mk fun F ρ hp a w g1 _ _ => by
    have hv := parts_ok (ρ := ρ) (a := a) _ _ hps (fun x hx => g1 x (by rw [ho]; simpa [Op.operands] using hx))
    have hu := (hT t yt hyt).sl hk
    obtain ⟨de, ie, z, q1, q2, q3, q4, _, q6, q7, q8⟩ := hT e ye hye
    have hn := Nat.le_of_ble_eq_true hn
    have hgo : ∀ zz : Array Value, ∃ cs, Instr.fill (fun i => some (i * ye.size, ye.size)) ((Array.range (n * ye.size)).map (zz[· % zz.size]!)) (parts.toList.map fun p => (p.1, a.eval p.2)) = some cs ∧ VSs ρ l cs.toList := fun zz =>
      fill_ok _ ρ ps _ _ _ l hv ⟨by simp, fun k s hs => by
        have hk : k < n * ye.size := by have := (List.getElem?_eq_some_iff.1 hs).1; simpa using this
        rw [List.getElem?_replicate, if_pos hk] at hs
        injection hs with hs; subst hs
        exact ⟨_, List.getElem?_eq_getElem (by simpa using hk), trivial⟩⟩ hf
    obtain ⟨cs, f1, f2⟩ : ∃ cs, (Instr.buildSlice t n (parts.map fun (i, x) => (i, a.eval x))).run P w = .ok (.slice (some ⟨w.heap.size, 0, none⟩) n n) (w.alloc (.cells cs e)) ∧ VSs ρ l cs.toList := by
      by_cases h0 : n * ye.size = 0
      · obtain ⟨cs, f1, f2⟩ := hgo #[]
        refine ⟨cs, ?_, f2⟩
        have hp : (parts.map fun (i, x) => (i, a.eval x)).toList = parts.toList.map fun p => (p.1, a.eval p.2) := by simp
        rw [h0] at f1
        simp [Instr.buildSlice, run_underlying hu, (hT e ye hye).sizeOf w, h0, newRow, -Array.toList_map]
        rw [hp]
        simp only [Array.range_zero', Array.map_empty] at f1 ⊢
        rw [f1]
        simp
      · obtain ⟨cs, f1, f2⟩ := hgo z.cells
        refine ⟨cs, ?_, f2⟩
        have hp : (parts.map fun (i, x) => (i, a.eval x)).toList = parts.toList.map fun p => (p.1, a.eval p.2) := by simp
        have hz : (zeroValue e).run P w = .ok z w := by simp [Go.zeroValue, typeInfo, q2, q6]
        have hn' : ¬ (16777216 < n * ye.size) := by omega
        simp [Instr.buildSlice, run_underlying hu, (hT e ye hye).sizeOf w, h0, hn', hz, newRow, -Array.toList_map]
        rw [hp, f1]
        simp
    refine ⟨.slice (some ⟨w.heap.size, 0, none⟩) n n, cs, e, w, ?_, ?_, ?_, rfl, rfl, rfl, rfl, ?_⟩
    rotate_left 3
    · unfold execOp; rw [ho]
      simp only [Sem.run_bind, f1, Result.andThen_ok]
      rfl
    · have := f2.1; simp at this; omega
    · intro k s hs; obtain ⟨v, p1, p2⟩ := f2.2 k s hs; exact ⟨v, by simpa using p1, p2⟩
    · intro ρ' _ hn'
      refine ⟨_, _, rfl, Nat.le_refl _, .inl ⟨_, hn', .inl ⟨rfl, ?_⟩⟩⟩
      have e9 : cs.size = n * ye.size := by rw [← hl, f2.1, Array.length_toList]
      show 0 + 0 + n * ye.size ≤ cs.size
      omega
/-- What a copy reads. -/
def SrcC (tv : Operand → TV) (x : Operand) (es : Nat) (fp : List (Nat × Row)) (m q : Nat) (l : List SV) : Prop :=
  (tv x = .a (.s .nilsl) ∧ fp = [] ∧ m = 0 ∧ q = 0 ∧ l = []) ∨
  (∃ j k r, tv x = .a (.s (.sl j k m)) ∧ fp = [(j, r)] ∧ q ≤ m ∧ l.length = q * es ∧ allKnown l = true ∧ ∀ (p : Nat) s, l[p]? = some s → r.cells[k + p]? = some s) ∨
  (∃ s, tv x = .a (.s (.str s)) ∧ fp = [] ∧ m = s.size ∧ q ≤ m ∧ l = (bytesS s).take q ∧ es = 1)
theorem allKnown_take {l : List SV} (h : allKnown l = true) (n : Nat) : allKnown (l.take n) = true := by
  induction l generalizing n with
  | nil => cases n <;> rfl
  | cons a l ih =>
    cases n with
    | zero => rfl
    | succ n =>
      unfold allKnown at h
      simp only [List.take_succ_cons]
      unfold allKnown
      cases e : a.known with
      | false => rw [e] at h; cases h
      | true => rw [e] at h; exact ih h n
theorem srcC_ok {F : Fr} {ρ : Nm} {hp : Hp} {w : World} {x : Operand} {es m q : Nat} {fp : List (Nat × Row)} {l : List SV} {v : Value} (hs : SrcC tv x es fp m q l) (hv : VT ρ (tv x) v) (hc : Conc F ρ hp w) (hf : ∀ p ∈ fp, hp p.1 = some p.2) :
    ∃ news, VSs ρ l news ∧ (Builtin.lenOf v).run P w = .ok m w ∧ (Builtin.firstCells es q v).run P w = .ok news.toArray w ∧ l.length = q * es ∧ allKnown l = true := by
  rcases hs with ⟨h1, rfl, rfl, rfl, rfl⟩ | ⟨j, k, r, h1, rfl, hq, h2, h3, h4⟩ | ⟨s, h1, rfl, rfl, hq, rfl, rfl⟩
  · rw [h1] at hv
    have hv : v = .slice none 0 0 := hv
    subst hv
    exact ⟨[], ⟨rfl, fun k s e => by cases e⟩, rfl, rfl, by simp, rfl⟩
  · rw [h1] at hv
    obtain ⟨A, c, rfl, hmc, e3⟩ := hv
    have nil : m = 0 → ∃ news, VSs ρ l news ∧ (Builtin.lenOf (.slice A m c)).run P w = .ok m w ∧ (Builtin.firstCells es q (.slice A m c)).run P w = .ok news.toArray w ∧ l.length = q * es ∧ allKnown l = true := by
      rintro rfl
      obtain rfl : q = 0 := by omega
      have : l = [] := by rw [Nat.zero_mul] at h2; exact List.eq_nil_of_length_eq_zero h2
      subst this
      refine ⟨[], ⟨rfl, fun k s e => by cases e⟩, rfl, ?_, by simp, rfl⟩
      cases A <;> simp [Builtin.firstCells, loadCells, loadCellsFrom]
    rcases e3 with ⟨L, hL, ⟨rfl, hb⟩ | h6⟩ | ⟨h5, h6⟩
    · have hr := hf (j, r) (by simp)
      obtain ⟨vs, g1, g2⟩ := row_seg (P := P) hc hr hL k l h4
      exact ⟨vs, g1, rfl, by rw [h2] at g2; exact g2, h2, h3⟩
    · exact nil (by omega)
    · exact nil (by omega)
  · rw [h1] at hv
    have hv : v = .string s := hv
    subst hv
    have hbl : (bytesS s).length = s.size := by show (s.data.toList.map fun b => SV.int .u8 b.toNat).length = s.data.size; rw [List.length_map, Array.length_toList]
    refine ⟨(byteCells s).take q, ⟨by rw [List.length_take, List.length_take, hbl, byteCells_length], fun k x e => ?_⟩, rfl, ?_, by rw [List.length_take, hbl]; omega, allKnown_take (bytesS_known _) q⟩
    · rw [List.getElem?_take] at e ⊢
      split at e
      · rename_i hkq
        rw [if_pos hkq]
        unfold bytesS at e
        unfold byteCells
        rw [List.getElem?_map] at e ⊢
        cases e2 : s.data.toList[k]? with
        | none => rw [e2] at e; cases e
        | some b => rw [e2] at e; injection e with e; subst e; exact ⟨_, rfl, rfl⟩
      · cases e
    · simp only [Builtin.firstCells, Sem.run_pure, byteCells]
      congr 1
      apply Array.ext'
      simp
theorem sem_copy {T : Tys} (hT : TysOk P T) (c : Call) (t tx e : TypeId) (x y : Operand) (yt ye : Ty) (i k n m q : Nat) (r : Row) (fp : List (Nat × Row)) (l : List SV) (ho : o.op = .call c) (hc0 : c.callee = .builtin .copy) (hca : c.args = #[x, y]) (hct : c.argTypes = #[t, tx])
    (hx : tv x = .a (.s (.sl i k n))) (hyt : T t = some yt) (hk : yt.kind = .slice e) (hye : T e = some ye)
    (hs : SrcC tv y ye.size fp m q l) (hmn : q = min m n) (hown : r.own = true) (hfit : k + l.length ≤ r.cells.length) :
    SemOp P o tv n0 ((i, r) :: fp) (· = ⟨.a (.s (.int .i64 q)), [(i, some { r with cells := setAll r.cells k l })], []⟩) := by
  intro F ρ hp a w Q K h1 hc hf hfr hK
  obtain ⟨A, cc, e1, hncc, e3⟩ := eval2 h1 (by rw [ho]; simp [Op.operands, Call.operands, hca, hc0]) hx
  have e2 := h1 y (by rw [ho]; simp [Op.operands, Call.operands, hca, hc0])
  have hu := (hT t yt hyt).sl hk
  obtain ⟨news, hv, hlo, hfc, hlen, hkn⟩ := srcC_ok (P := P) hs e2 hc (fun p hp => hf p (List.mem_cons_of_mem _ hp))
  have hr0 := hf (i, r) (by simp)
  simp only [] at hr0
  have hvl : l.length = news.length := hv.1
  have hmin : Nat.min m n = q := hmn.symm
  unfold Oper.wp
  have nothing : l = [] → cc = 0 → o.upon P a K Q ((execOp a.eval o).run P w) := by
    rintro rfl h6
    have hn0 : n = 0 := by omega
    have hn' : news = [] := by simpa using hvl.symm
    subst hn'
    have hr : (Builtin.copy_ c.argTypes o.type #[a.eval x, a.eval y]).run P w = .ok (.int .i64 q) w := by
      rw [hct, e1]
      cases A <;> simp [Builtin.copy_, run_underlying hu, hlo, hmin, (hT e ye hye).sizeOf w, hfc, storeCells, goInt]
    rw [exec_builtin c .copy x y a w w _ Builtin.copy_ ho hc0 hca (fun _ _ _ _ => rfl) hr, Oper.upon_value]
    refine hK _ ρ _ _ rfl (Ext.refl _) (fun _ _ => rfl) rfl ?_
    rw [app_up]
    have : Hp.set hp i (some { r with cells := setAll r.cells k [] }) = hp := by
      funext z; unfold Hp.set; split
      · rename_i e; subst e; exact hr0.symm
      · rfl
    rw [this]; exact hc
  rcases e3 with ⟨L, hL, ⟨rfl, hbd⟩ | h6⟩ | ⟨h5, h6⟩
  · obtain ⟨hes2, hcl, cur, ct, fz, q1, q2, q3, q4⟩ := row_at hc hr0 hL
    have q3 := q3 hown
    subst q3
    have hst := run_storeCells_at P L.b (L.δ + k) ct news 0 cur w q1 (by rw [← hvl]; omega) (hv.one hkn)
    simp only [Nat.add_zero] at hst
    have hr : (Builtin.copy_ c.argTypes o.type #[a.eval x, a.eval y]).run P w = .ok (.int .i64 q) (w.setRow L.b (cur.toList.take (L.δ + k) ++ news ++ cur.toList.drop (L.δ + k + news.length)).toArray) := by
      rw [hct, e1]
      simp [Builtin.copy_, run_underlying hu, hlo, hmin, (hT e ye hye).sizeOf w, hfc, hst, goInt]
    rw [exec_builtin c .copy x y a w _ _ Builtin.copy_ ho hc0 hca (fun _ _ _ _ => rfl) hr, Oper.upon_value]
    refine hK _ ρ _ _ rfl (Ext.refl _) (fun _ _ => rfl) rfl ?_
    rw [app_up]
    refine hc.write hr0 hown hL (c' := _) (t := ct) (setAll r.cells k l) (setRow_heap w L.b cur _ ct _ q1) (by simp only [List.size_toArray, List.length_append, List.length_take, List.length_drop, ← hvl, Array.length_toList]; omega) (by simp only [setAll_length]; exact hcl) (fun j s hs => ?_) (fun b hb => setRow_other _ _ _ _ hb) (by simp) rfl rfl rfl
    rw [setAll_get _ _ _ _ hfit] at hs
    simp only [List.getElem?_toArray]
    rw [seg_get rfl (by simp; omega)]
    split at hs
    · rename_i hj
      rw [if_pos (by omega), show L.δ + j - (L.δ + k) = j - k by omega]
      exact hv.2 _ _ hs
    · rename_i hj
      rw [if_neg (by omega)]
      obtain ⟨v, h5, h6⟩ := q4 j s hs
      exact ⟨v, by simpa using h5, h6⟩
  · exact nothing (List.eq_nil_of_length_eq_zero (by rw [hlen, show q = 0 by omega, Nat.zero_mul])) h6
  · exact nothing (List.eq_nil_of_length_eq_zero (by rw [hlen, show q = 0 by omega, Nat.zero_mul])) h6
/-- Bytes of cells. -/
def toBytes : List SV → Option (List UInt8)
  | [] => some []
  | .int .u8 n :: l => match toBytes l with
    | some r => some (UInt8.ofNat n.toNat :: r)
    | none => none
  | _ :: _ => none
/-- Numbers of byte cells. -/
def toNums : List SV → Option (List Int)
  | [] => some []
  | .int .u8 n :: l => match toNums l with
    | some r => some (n :: r)
    | none => none
  | _ :: _ => none
theorem toNums_ok {ρ : Nm} : ∀ {l : List SV} {xs : List Int} {vs : List Value}, toNums l = some xs → VSs ρ l vs → vs = xs.map (Value.int .u8)
  | [], xs, vs, h, hv => by
    injection h with h; subst h
    exact List.eq_nil_of_length_eq_zero hv.1.symm
  | s :: l, xs, vs, h, hv => by
    unfold toNums at h
    split at h
    · rename_i e; cases e
    · rename_i n l' e
      injection e with e1 e2; subst e1 e2
      split at h
      · rename_i r hr
        injection h with h; subst h
        cases vs with
        | nil => have := hv.1; simp at this
        | cons v vs =>
          obtain ⟨u, h1, h2⟩ := hv.2 0 _ rfl
          injection h1 with h1; subst h1
          have h2 : v = .int .u8 n := h2
          rw [h2, toNums_ok (vs := vs) hr ⟨by have := hv.1; simpa using this, fun k s hs => hv.2 (k + 1) s hs⟩]
          rfl
      · cases h
    · cases h
theorem sem_convB {T : Tys} (hT : TysOk P T) (s d e : TypeId) (x : Operand) (ys yd ye : Ty) (i k n : Nat) (r : Row) (l : List SV) (xs : List Int) (ho : o.op = .convert s d x) (hx : tv x = .a (.s (.sl i k n))) (hs : T s = some ys) (hks : ys.kind = .slice e) (he : T e = some ye) (hke : ye.kind = .int .u8)
    (hd : T d = some yd) (hkd : yd.kind = .str) (hl : l.length = n) (hr : ∀ (j : Nat) s, l[j]? = some s → r.cells[k + j]? = some s) (hn : toNums l = some xs) : SemOp P o tv n0 [(i, r)] (· = ⟨.a (.s (.str (strOfNums xs))), [], []⟩) :=
  SemOp.read fun F ρ hp a w h1 hc hf => by
    obtain ⟨A, c, e1, hnc, h2⟩ := eval2 h1 (by rw [ho]; simp [Op.operands]) hx
    have u1 := (hT s ys hs).sl hks
    have u2 := (hT e ye he).int hke
    have u3 := (hT d yd hd).str hkd
    have hr0 := hf (i, r) (by simp)
    refine ⟨.string (strOfNums xs), rfl, ?_⟩
    unfold execOp; rw [ho]
    simp only [e1]
    have main : ∀ A' : Addr, (loadCells A' n).run P w = .ok (xs.map (Value.int .u8)).toArray w → (convert s d (.slice (some A') n c)).run P w = .ok (.string (strOfNums xs)) w := fun A' hl => by
      rw [run_convert_bytes_string w s d e _ n c u1 u2 u3, run_bytesToString w A' n c xs hl, foldl_push_bytes]
      simp [strOfNums, ByteArray.empty, ByteArray.emptyWithCapacity]
      rfl
    have zero : n = 0 → (convert s d (.slice A n c)).run P w = .ok (.string (strOfNums xs)) w := fun h0 => by
      have hl0 : l = [] := List.eq_nil_of_length_eq_zero (by omega)
      subst hl0
      have hx0 : xs = [] := by simpa [toNums] using hn.symm
      subst hx0
      cases A with
      | none => rw [run_convert_bytes_nil w s e u1 u2 n c d u3]; rfl
      | some A' => exact main A' (by rw [h0]; simp [loadCells, loadCellsFrom])
    have hgoal : (convert s d (.slice A n c)).run P w = .ok (.string (strOfNums xs)) w := by
      rcases h2 with ⟨L, hL, ⟨rfl, h3⟩ | h3⟩ | ⟨_, h3⟩
      · obtain ⟨vs, g1, g2⟩ := row_seg (P := P) hc hr0 hL k l hr
        have := toNums_ok hn g1
        subst this
        rw [hl] at g2
        exact main _ g2
      · exact zero (by omega)
      · exact zero (by omega)
    simp only [Sem.run_bind, hgoal, Result.andThen_ok]
    rfl
theorem sem_convBN {T : Tys} (hT : TysOk P T) (s d e : TypeId) (x : Operand) (ys yd ye : Ty) (ho : o.op = .convert s d x) (hx : tv x = .a (.s .nilsl)) (hs : T s = some ys) (hks : ys.kind = .slice e) (he : T e = some ye) (hke : ye.kind = .int .u8)
    (hd : T d = some yd) (hkd : yd.kind = .str) : SemOp P o tv n0 [] (· = ⟨.a (.s (.str ByteArray.empty)), [], []⟩) :=
  SemOp.read fun F ρ hp a w h1 hc hf => by
    have e1 : a.eval x = .slice none 0 0 := eval2 h1 (by rw [ho]; simp [Op.operands]) hx
    refine ⟨.string ByteArray.empty, rfl, ?_⟩
    unfold execOp; rw [ho]
    simp only [e1, Sem.run_bind, run_convert_bytes_nil w s e ((hT s ys hs).sl hks) ((hT e ye he).int hke) 0 0 d ((hT d yd hd).str hkd), Result.andThen_ok]
    rfl
end Go.Proofs.Ytffhbadeoadbkaa
