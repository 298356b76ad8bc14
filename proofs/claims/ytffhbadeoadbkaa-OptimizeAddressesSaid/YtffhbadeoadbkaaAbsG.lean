/- What one operation does, said of the abstract machine: slices, append, copy, make. -/
import Derived.Test.YtffhbadeoadbkaaAbsF
namespace Go.Proofs.Ytffhbadeoadbkaa
open Go Go.RowKit
variable {P : Program} {o : Oper} {tv : Operand → TV} {n0 : Nat}

/-- A bound that is given, or is not. -/
def bndS (tv : Operand → TV) (d : Int) : Option Operand → Option Int
  | none => some d
  | some x => match tv x with
    | .a (.s (.int _ z)) => some z
    | _ => none
theorem bnd_ok {ρ : Nm} {a : Act} {d : Int} {x : Option Operand} {z : Int} (h : bndS tv d x = some z) (hv : ∀ y, x = some y → VT ρ (tv y) (a.eval y)) :
    (x = none ∧ z = d) ∨ ∃ y k, x = some y ∧ a.eval y = .int k z := by
  cases x with
  | none => injection h with h; exact .inl ⟨rfl, h.symm⟩
  | some y =>
    have hy := hv y rfl
    simp only [bndS] at h
    split at h
    · rename_i k q e
      injection h with h; subst h
      rw [e] at hy
      exact .inr ⟨y, _, rfl, hy⟩
    · cases h
theorem run_bounds (b : Bool) (len cap : Nat) (lo hi : Option Value) (l h : Int) (w : World) (hl : lo = none ∧ l = 0 ∨ ∃ k, lo = some (.int k l)) (hh : hi = none ∧ h = len ∨ ∃ k, hi = some (.int k h)) (h0 : 0 ≤ l) (h1 : l ≤ h) (h2 : h ≤ cap) :
    (Instr.sliceBounds b len cap lo hi none).run P w = .ok (l.toNat, h.toNat, cap) w := by
  have eh : (h.toNat : Int) = h := Int.toNat_of_nonneg (by omega)
  rcases hl with ⟨rfl, rfl⟩ | ⟨k, rfl⟩ <;> rcases hh with ⟨rfl, rfl⟩ | ⟨k', rfl⟩
  · simp [Instr.sliceBounds]
  · simp [Instr.sliceBounds, run_sliceBound, h2, (by omega : 0 ≤ h)]
  · simp [Instr.sliceBounds, run_sliceBound, h0, h1]
  · simp [Instr.sliceBounds, run_sliceBound, h0, h1, h2, eh, (by omega : 0 ≤ h)]
theorem opt_map {ρ : Nm} {a : Act} {d : Int} {x : Option Operand} {z : Int} (h : bndS tv d x = some z) (hv : ∀ y, x = some y → VT ρ (tv y) (a.eval y)) : x.map a.eval = none ∧ z = d ∨ ∃ k, x.map a.eval = some (.int k z) := by
  rcases bnd_ok h hv with ⟨rfl, rfl⟩ | ⟨y, k, rfl, e⟩
  · exact .inl ⟨rfl, rfl⟩
  · exact .inr ⟨k, by simp [e]⟩
theorem sem_sliceS {T : Tys} (hT : TysOk P T) (t : TypeId) (x : Operand) (lo hi : Option Operand) (y : Ty) (s : ByteArray) (l h : Int) (ho : o.op = .slice t x lo hi none) (hx : tv x = .a (.s (.str s))) (hy : T t = some y) (hk : y.kind = .str)
    (hl : bndS tv 0 lo = some l) (hh : bndS tv s.size hi = some h) (h0 : 0 ≤ l) (h1 : l ≤ h) (h2 : h ≤ s.size) : SemOp P o tv n0 [] (· = ⟨.a (.s (.str (s.extract l.toNat h.toNat))), [], []⟩) :=
  SemOp.read fun F ρ hp a w g1 hc _ => by
    have e2 : a.eval x = .string s := eval2 g1 (by rw [ho]; simp [Op.operands]) hx
    have b1 := opt_map (ρ := ρ) (a := a) hl (fun z hz => g1 z (by rw [ho]; subst hz; simp [Op.operands]))
    have b2 := opt_map (ρ := ρ) (a := a) hh (fun z hz => g1 z (by rw [ho]; subst hz; simp [Op.operands]))
    have hu := (hT t y hy).str hk
    refine ⟨.string (s.extract l.toNat h.toNat), rfl, ?_⟩
    unfold execOp; rw [ho]
    simp only [e2, Option.map_none, Sem.run_bind, run_sliceAt_string w t _ _ _ _ hu]
    simp [Instr.slice, run_underlying hu, run_bounds (P := P) false s.size s.size _ _ l h w b1 b2 h0 h1 h2]
theorem sem_slice {T : Tys} (hT : TysOk P T) (t e : TypeId) (x : Operand) (lo hi : Option Operand) (y ye : Ty) (i k n : Nat) (r : Row) (l h : Int) (ho : o.op = .slice t x lo hi none) (hx : tv x = .a (.s (.sl i k n))) (hy : T t = some y) (hk : y.kind = .slice e) (he : T e = some ye)
    (hes : r.es = ye.size) (hl : bndS tv 0 lo = some l) (hh : bndS tv n hi = some h) (h0 : 0 ≤ l) (h1 : l ≤ h) (h2 : h ≤ n) : SemOp P o tv n0 [(i, r)] (· = ⟨.a (.s (.sl i (k + l.toNat * ye.size) (h - l).toNat)), [], []⟩) :=
  SemOp.read fun F ρ hp a w g1 hc hf => by
    obtain ⟨A, c, e2, hnc, e3⟩ := eval2 g1 (by rw [ho]; simp [Op.operands]) hx
    have b1 := opt_map (ρ := ρ) (a := a) hl (fun z hz => g1 z (by rw [ho]; subst hz; simp [Op.operands]))
    have b2 := opt_map (ρ := ρ) (a := a) hh (fun z hz => g1 z (by rw [ho]; subst hz; simp [Op.operands]))
    have hu := (hT t y hy).sl hk
    have hr := hf (i, r) (by simp)
    refine ⟨.slice (if c = l.toNat then A else A.map (·.add (l.toNat * ye.size))) (h.toNat - l.toNat) (c - l.toNat), ⟨_, _, by rw [show (h - l).toNat = h.toNat - l.toNat by omega], by omega, ?_⟩, ?_⟩
    · rcases e3 with ⟨L, hL, ⟨rfl, hb⟩ | h6⟩ | ⟨h5, h6⟩
      · have hes2 := (row_at hc hr hL).1
        refine .inl ⟨L, hL, ?_⟩
        by_cases hcl : c = l.toNat
        · exact .inr (by omega)
        · refine .inl ⟨by rw [if_neg hcl]; simp [Addr.add_lit, Nat.add_assoc], ?_⟩
          rw [hes2, hes] at hb ⊢
          have : l.toNat * ye.size + (c - l.toNat) * ye.size = c * ye.size := by rw [← Nat.add_mul]; congr 1; omega
          omega
      · exact .inl ⟨L, hL, .inr (by omega)⟩
      · exact .inr ⟨h5, by omega⟩
    · unfold execOp; rw [ho]
      have hue : P.underlying t = some (.slice (P.elem t)) := by simp [Program.elem, hu]
      simp only [e2, Option.map_none, Sem.run_bind, run_sliceAt_slice w t _ _ _ _ hue]
      simp [Instr.slice, run_underlying hu, run_bounds (P := P) true n c _ _ l h w b1 b2 h0 h1 (by omega), (hT _ _ he).sizeOf w]
theorem sem_sliceNil {T : Tys} (hT : TysOk P T) (t e : TypeId) (x : Operand) (lo hi : Option Operand) (y ye : Ty) (ho : o.op = .slice t x lo hi none) (hx : tv x = .a (.s .nilsl)) (hy : T t = some y) (hk : y.kind = .slice e) (he : T e = some ye)
    (hl : bndS tv 0 lo = some 0) (hh : bndS tv 0 hi = some 0) : SemOp P o tv n0 [] (· = ⟨.a (.s .nilsl), [], []⟩) :=
  SemOp.read fun F ρ hp a w g1 hc hf => by
    have e2 : a.eval x = .slice none 0 0 := eval2 g1 (by rw [ho]; simp [Op.operands]) hx
    have b1 := opt_map (ρ := ρ) (a := a) hl (fun z hz => g1 z (by rw [ho]; subst hz; simp [Op.operands]))
    have b2 := opt_map (ρ := ρ) (a := a) hh (fun z hz => g1 z (by rw [ho]; subst hz; simp [Op.operands]))
    have hu := (hT t y hy).sl hk
    refine ⟨.slice none 0 0, rfl, ?_⟩
    unfold execOp; rw [ho]
    have hue : P.underlying t = some (.slice (P.elem t)) := by simp [Program.elem, hu]
    simp only [e2, Option.map_none, Sem.run_bind, run_sliceAt_slice w t _ _ _ _ hue]
    simp [Instr.slice, run_underlying hu, run_bounds (P := P) true 0 0 _ _ 0 0 w b1 b2 (by omega) (by omega) (by omega), (hT _ _ he).sizeOf w]

def bytesS (s : ByteArray) : List SV := s.data.toList.map fun b => SV.int .u8 b.toNat
theorem bytesS_known (l : List UInt8) : allKnown (l.map fun b => SV.int .u8 b.toNat) = true := by
  induction l with
  | nil => rfl
  | cons a l ih => unfold allKnown; exact ih
/-- What the second operand of an append yields. -/
def SrcS (tv : Operand → TV) (x : Operand) (es : Nat) (fp : List (Nat × Row)) (m : Nat) (l : List SV) : Prop :=
  (tv x = .a (.s .nilsl) ∧ fp = [] ∧ m = 0 ∧ l = []) ∨
  (∃ j k r, tv x = .a (.s (.sl j k m)) ∧ fp = [(j, r)] ∧ l.length = m * es ∧ allKnown l = true ∧ ∀ (q : Nat) s, l[q]? = some s → r.cells[k + q]? = some s) ∨
  (∃ s, tv x = .a (.s (.str s)) ∧ fp = [] ∧ m = s.size ∧ l = bytesS s ∧ es = 1)
theorem src_ok {F : Fr} {ρ : Nm} {hp : Hp} {w : World} {x : Operand} {es m : Nat} {fp : List (Nat × Row)} {l : List SV} {tx : TypeId} {v : Value} (hs : SrcS tv x es fp m l) (hv : VT ρ (tv x) v) (hc : Conc F ρ hp w) (hf : ∀ p ∈ fp, hp p.1 = some p.2)
    (hk2 : (∃ s, tv x = .a (.s (.str s))) → P.underlying tx = some .string) (hk3 : (¬ ∃ s, tv x = .a (.s (.str s))) → ∃ e', P.underlying tx = some (.slice e')) :
    ∃ news, VSs ρ l news ∧ Src P es tx v m news w ∧ l.length = m * es ∧ allKnown l = true := by
  rcases hs with ⟨h1, rfl, rfl, rfl⟩ | ⟨j, k, r, h1, rfl, h2, h3, h4⟩ | ⟨s, h1, rfl, rfl, rfl, rfl⟩
  · rw [h1] at hv
    have hv : v = .slice none 0 0 := hv
    subst hv
    obtain ⟨e', hk⟩ := hk3 (by rintro ⟨s, hs⟩; rw [h1] at hs; cases hs)
    exact ⟨[], ⟨rfl, fun k s e => by cases e⟩, Src.ofNil w hk 0, by simp, rfl⟩
  · rw [h1] at hv
    obtain ⟨A, c, rfl, hmc, e3⟩ := hv
    obtain ⟨e', hk⟩ := hk3 (by rintro ⟨s, hs⟩; rw [h1] at hs; cases hs)
    have nil : m = 0 → ∃ news, VSs ρ l news ∧ Src P es tx (.slice A m c) m news w ∧ l.length = m * es ∧ allKnown l = true := by
      rintro rfl
      have : l = [] := by rw [Nat.zero_mul] at h2; exact List.eq_nil_of_length_eq_zero h2
      subst this
      cases A with
      | none => exact ⟨[], ⟨rfl, fun k s e => by cases e⟩, Src.ofNil w hk c, by simp, rfl⟩
      | some a => exact ⟨[], ⟨rfl, fun k s e => by cases e⟩, Src.ofSlice w hk a 0 c [] (by simp) (fun j u e => by cases e) (fun u hu => by cases hu), by simp, rfl⟩
    rcases e3 with ⟨L, hL, ⟨rfl, hb⟩ | h6⟩ | ⟨h5, h6⟩
    · have hr := hf (j, r) (by simp)
      have : ∀ q, ∃ v, q < l.length → (w.cell? ⟨L.b, L.δ + k + q, none⟩ = some v ∧ ∀ s, l[q]? = some s → VS ρ s v) := fun q => by
        by_cases hq : q < l.length
        · obtain ⟨v, g1, g2⟩ := row_cell hc hr hL (h4 q _ (List.getElem?_eq_getElem hq))
          refine ⟨v, fun _ => ⟨by rw [Nat.add_assoc]; exact g1, fun s e => ?_⟩⟩
          rw [List.getElem?_eq_getElem hq] at e; injection e with e; subst e; exact g2
        · exact ⟨default, fun h => absurd h hq⟩
      obtain ⟨f, hf'⟩ := Classical.axiomOfChoice this
      have hV : VSs ρ l ((List.range l.length).map f) := ⟨by simp, fun q s e => by
        have hq : q < l.length := (List.getElem?_eq_some_iff.1 e).1
        exact ⟨f q, by simp [hq], (hf' q hq).2 s e⟩⟩
      refine ⟨_, hV, Src.ofSlice w hk ⟨L.b, L.δ + k, none⟩ m c _ (by simpa using h2) (fun q u e => ?_) (hV.one h3), h2, h3⟩
      have hq : q < l.length := by have := (List.getElem?_eq_some_iff.1 e).1; simpa using this
      simp [hq] at e; subst e
      rw [Addr.add_lit]
      exact (hf' q hq).1
    · exact nil (by omega)
    · exact nil (by omega)
  · rw [h1] at hv
    have hv : v = .string s := hv
    subst hv
    refine ⟨byteCells s, ?_, Src.ofString w (hk2 ⟨s, h1⟩) s, ?_, bytesS_known _⟩
    · refine ⟨by simp [bytesS, byteCells], fun k x e => ?_⟩
      unfold bytesS at e
      unfold byteCells
      rw [List.getElem?_map] at e ⊢
      cases e2 : s.data.toList[k]? with
      | none => rw [e2] at e; cases e
      | some b => rw [e2] at e; injection e with e; subst e; exact ⟨_, rfl, rfl⟩
    · rw [Nat.mul_one]
      show (s.data.toList.map fun b => SV.int .u8 b.toNat).length = s.data.size; rw [List.length_map, Array.length_toList]
theorem run_append_room (w : World) (t tx ty e : TypeId) (i : TypeInfo) (ht : P.underlying t = some (.slice e)) (hi : P.info? e = some i) (b off sLen sCap : Nat) (x : Value) (n : Nat) (news : List Value) (hs : Src P i.size tx x n news w)
    (hroom : sLen + n ≤ sCap) (cur : Array Value) (ct : TypeId) (hg : w.heap[b]? = some (.cells cur ct (0, 0))) (hfit : off + sLen * i.size + news.length ≤ cur.size) :
    (Builtin.append_ #[t, tx] ty #[.slice (some ⟨b, off, none⟩) sLen sCap, x]).run P w =
      .ok (.slice (some ⟨b, off, none⟩) (sLen + n) sCap) (w.setRow b (cur.toList.take (off + sLen * i.size) ++ news ++ cur.toList.drop (off + sLen * i.size + news.length)).toArray) := by
  have hst := run_storeCells_at P b (off + sLen * i.size) ct news 0 cur w hg (by simpa using hfit) hs.one
  simp only [Nat.add_zero] at hst
  rcases hs.kind with ⟨e', hk⟩ | hk <;> simp [Builtin.append_, run_underlying ht, run_underlying hk, sizeOf, typeInfo, hi, hs.len, hroom, hs.cells, Addr.add_lit, hst]
theorem run_append_room0 (w : World) (t tx ty e : TypeId) (i : TypeInfo) (ht : P.underlying t = some (.slice e)) (hi : P.info? e = some i) (A : Option Addr) (sCap : Nat) (x : Value) (hs : Src P i.size tx x 0 [] w) :
    (Builtin.append_ #[t, tx] ty #[.slice A 0 sCap, x]).run P w = .ok (.slice A 0 sCap) w := by
  rcases hs.kind with ⟨e', hk⟩ | hk <;> cases A <;> simp [Builtin.append_, run_underlying ht, run_underlying hk, sizeOf, typeInfo, hi, hs.len, hs.cells, storeCells]
end Go.Proofs.Ytffhbadeoadbkaa
