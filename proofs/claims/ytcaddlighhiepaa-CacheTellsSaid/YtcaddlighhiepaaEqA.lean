/- Equality of structs and arrays of scalars, cell by cell. -/
import Derived.Test.YtcaddlighhiepaaAbsR
namespace Go.Proofs.Ytcaddlighhiepaa
open Go Go.RowKit
set_option linter.unusedSimpArgs false
set_option linter.unusedVariables false

def kEq : IntKind → IntKind → Bool
  | .i8, .i8 => true | .i16, .i16 => true | .i32, .i32 => true | .i64, .i64 => true
  | .u8, .u8 => true | .u16, .u16 => true | .u32, .u32 => true | .u64, .u64 => true
  | _, _ => false
theorem kEq_ok {a b : IntKind} (h : kEq a b = true) : a = b := by cases a <;> cases b <;> first | rfl | cases h
def bytesEq : List UInt8 → List UInt8 → Bool
  | [], [] => true
  | a :: l, b :: m => match Nat.beq a.toNat b.toNat with
    | true => bytesEq l m
    | false => false
  | _, _ => false
theorem bytesEq_eq : ∀ l m : List UInt8, bytesEq l m = (l == m)
  | [], [] => rfl
  | a :: l, [] => rfl
  | [], b :: m => rfl
  | a :: l, b :: m => by
    unfold bytesEq
    rw [bytesEq_eq l m]
    cases hb : Nat.beq a.toNat b.toNat with
    | true =>
      have : a = b := UInt8.toNat_inj.1 (Nat.eq_of_beq_eq_true hb)
      subst this; simp
    | false =>
      have : ¬ a = b := fun e => by subst e; rw [Nat.beq_refl] at hb; cases hb
      simp [this]
inductive SK where
  | int | bool | str
def eqS : SK → SV → SV → Option Bool
  | .int, .int k m, .int k' n => match kEq k k' with
    | true => some (m == n)
    | false => none
  | .bool, .bool m, .bool n => some (m == n)
  | .str, .str m, .str n => some (bytesEq m.data.toList n.data.toList)
  | _, _, _ => none
def eqCells : List SK → List SV → List SV → Option Bool
  | [], [], [] => some true
  | k :: ks, a :: l, b :: m => match eqS k a b with
    | some x => match eqCells ks l m with
      | some y => some (x && y)
      | none => none
    | none => none
  | _, _, _ => none
theorem eqCells_len : ∀ {ks : List SK} {l m : List SV} {b : Bool}, eqCells ks l m = some b → l.length = ks.length ∧ m.length = ks.length
  | [], [], [], b, _ => ⟨rfl, rfl⟩
  | k :: ks, a :: l, c :: m, b, h => by
    unfold eqCells at h
    split at h
    · split at h
      · rename_i y hy; have := eqCells_len hy; simp [this]
      · cases h
    · cases h
  | [], _ :: _, _, _, h => by cases h
  | [], [], _ :: _, _, h => by cases h
  | _ :: _, [], _, _, h => by cases h
  | _ :: _, _ :: _, [], _, h => by cases h
theorem eqCells_append : ∀ {ks ks' : List SK} {l m : List SV} {b : Bool}, eqCells (ks ++ ks') l m = some b →
    ∃ x y, eqCells ks (l.take ks.length) (m.take ks.length) = some x ∧ eqCells ks' (l.drop ks.length) (m.drop ks.length) = some y ∧ b = (x && y)
  | [], ks', l, m, b, h => ⟨true, b, by simp [eqCells], by simpa using h, by simp⟩
  | k :: ks, ks', a :: l, c :: m, b, h => by
    change eqCells (k :: (ks ++ ks')) (a :: l) (c :: m) = some b at h
    unfold eqCells at h
    split at h
    · rename_i x hx
      split at h
      · rename_i y hy
        injection h with h
        obtain ⟨u, v, h1, h2, rfl⟩ := eqCells_append hy
        refine ⟨x && u, v, ?_, by simpa using h2, by rw [← h, Bool.and_assoc]⟩
        simp only [List.length_cons, List.take_succ_cons]
        unfold eqCells
        rw [hx, h1]
      · cases h
    · cases h
  | _ :: _, _, [], _, _, h => by cases h
  | _ :: _, _, _ :: _, [], _, h => by cases h
/-- The cells of a value of a type. -/
def HasC (ag : Bool) (ρ : Nm) (l : List SV) (v : Value) : Prop := match ag with
  | true => ∃ cs, v = .agg cs ∧ VSs ρ l cs.toList
  | false => ∃ s, l = [s] ∧ VS ρ s v
def EqIn (P : Program) (d : Nat) (t : TypeId) (ag : Bool) (ks : List SK) : Prop :=
  ∀ (ρ : Nm) (w : World) (l l' : List SV) (v v' : Value) (b : Bool), HasC ag ρ l v → HasC ag ρ l' v' → eqCells ks l l' = some b → (Op.equalIn d t v v').run P w = .ok b w
theorem has_part {P : Program} {T : Tys} (hT : TysOk P T) {t : TypeId} {y : Ty} (hy : T t = some y) {ρ : Nm} {w : World} {l : List SV} {cs : Array Value} (h : VSs ρ l cs.toList) (off : Nat) (hl : off + y.size ≤ l.length) (hs : y.kind.agg = false → y.size = 1) :
    ∃ v, (part t cs off).run P w = .ok v w ∧ HasC y.kind.agg ρ ((l.drop off).take y.size) v := by
  have ha := (hT t y hy).agg w
  have hz := (hT t y hy).sizeOf w
  have hlen : l.length = cs.size := by have := h.1; simpa using this
  cases e : y.kind.agg with
  | true =>
    rw [e] at ha
    refine ⟨.agg (cs.extract off (off + y.size)), by simp [part, ha, hz], _, rfl, ?_⟩
    exact seg_ok h off y.size
  | false =>
    rw [e] at ha
    have h1 := hs e
    rw [h1] at hl ⊢
    have hlt : off < l.length := by omega
    obtain ⟨v, h2, h3⟩ := h.2 off _ (List.getElem?_eq_getElem hlt)
    have h2 : cs[off]? = some v := by simpa using h2
    refine ⟨v, by simp [part, ha, h2], l[off], ?_, h3⟩
    rw [List.drop_eq_getElem_cons hlt]; rfl
theorem eqIn_int {P : Program} {d : Nat} {t : TypeId} {k : IntKind} (h : P.underlying t = some (.int k)) : EqIn P (d + 1) t false [.int] := by
  rintro ρ w l l' v v' b ⟨s, rfl, h1⟩ ⟨s', rfl, h2⟩ he
  unfold eqCells at he
  split at he
  · rename_i x hx
    simp only [eqCells, Option.some.injEq, Bool.and_true] at he
    subst he
    unfold eqS at hx
    split at hx <;> try cases hx
    · split at hx
      · rename_i hk
        injection hx with hx; subst hx
        have := kEq_ok hk; subst this
        have h1 : v = _ := h1
        have h2 : v' = _ := h2
        rw [h1, h2]
        exact run_equalIn_int w d t _ k _ _ h
      · cases hx
    all_goals contradiction
  · cases he
theorem eqIn_bool {P : Program} {d : Nat} {t : TypeId} (h : P.underlying t = some .bool) : EqIn P (d + 1) t false [.bool] := by
  rintro ρ w l l' v v' b ⟨s, rfl, h1⟩ ⟨s', rfl, h2⟩ he
  unfold eqCells at he
  split at he
  · rename_i x hx
    simp only [eqCells, Option.some.injEq, Bool.and_true] at he
    subst he
    unfold eqS at hx
    split at hx <;> try cases hx
    · contradiction
    · have h1 : v = _ := h1
      have h2 : v' = _ := h2
      rw [h1, h2]
      exact run_equalIn_bool w d t _ _ h
    · contradiction
  · cases he
theorem eqIn_str {P : Program} {d : Nat} {t : TypeId} (h : P.underlying t = some .string) : EqIn P (d + 1) t false [.str] := by
  rintro ρ w l l' v v' b ⟨s, rfl, h1⟩ ⟨s', rfl, h2⟩ he
  unfold eqCells at he
  split at he
  · rename_i x hx
    simp only [eqCells, Option.some.injEq, Bool.and_true] at he
    subst he
    unfold eqS at hx
    split at hx <;> try cases hx
    · contradiction
    · contradiction
    · have h1 : v = _ := h1
      have h2 : v' = _ := h2
      rw [h1, h2, run_equalIn_string w d t _ _ h, bytesEq_eq, ByteArray.toList_eq, ByteArray.toList_eq]
  · cases he
/-- The fields of a struct, from an offset on. -/
def shpF (sh : TypeId → Option (List SK)) : Nat → List (Nat × TypeId) → Option (List SK)
  | _, [] => some []
  | o, p :: l => match Nat.beq p.1 o with
    | true => match sh p.2 with
      | some a => match shpF sh (o + a.length) l with
        | some b => some (a ++ b)
        | none => none
      | none => none
    | false => none
def repL (a : List SK) : Nat → List SK
  | 0 => []
  | n + 1 => a ++ repL a n
def shp (T : Tys) : Nat → TypeId → Option (List SK)
  | 0, _ => none
  | d + 1, t => match T t with
    | some y => match y.kind with
      | .int _ => match Nat.beq y.size 1 with | true => some [.int] | false => none
      | .bool => match Nat.beq y.size 1 with | true => some [.bool] | false => none
      | .str => match Nat.beq y.size 1 with | true => some [.str] | false => none
      | .struct fs => match shpF (shp T d) 0 fs with
        | some a => match Nat.beq a.length y.size && Nat.blt 0 y.size with | true => some a | false => none
        | none => none
      | .array n e => match shp T d e with
        | some a => match Nat.beq (repL a n).length y.size && Nat.blt 0 y.size with | true => some (repL a n) | false => none
        | none => none
      | _ => none
    | none => none
def cleanF (c : TypeId → Bool) : List Field → Bool
  | [] => true
  | f :: l => (f.name != "_") && c f.type && cleanF c l
def clean (P : Program) : Nat → TypeId → Bool
  | 0, _ => true
  | d + 1, t => match P.underlying t with
    | some (.struct fs) => !P.stoodInHeld t && cleanF (clean P d) fs.toList
    | some (.array _ e) => clean P d e
    | _ => true
theorem shp_len {T : Tys} {d : Nat} {t : TypeId} {a : List SK} (h : shp T d t = some a) : ∃ y, T t = some y ∧ a.length = y.size ∧ (y.kind.agg = false → y.size = 1) ∧ 0 < y.size := by
  cases d with
  | zero => cases h
  | succ d =>
    unfold shp at h
    split at h
    · rename_i y hy
      refine ⟨y, hy, ?_⟩
      split at h <;> rename_i hk
      · split at h
        · rename_i hb; injection h with h; subst h; have hb := Nat.eq_of_beq_eq_true hb; exact ⟨hb.symm, fun _ => hb, by omega⟩
        · cases h
      · split at h
        · rename_i hb; injection h with h; subst h; have hb := Nat.eq_of_beq_eq_true hb; exact ⟨hb.symm, fun _ => hb, by omega⟩
        · cases h
      · split at h
        · rename_i hb; injection h with h; subst h; have hb := Nat.eq_of_beq_eq_true hb; exact ⟨hb.symm, fun _ => hb, by omega⟩
        · cases h
      · split at h
        · split at h
          · rename_i hb; injection h with h; subst h; rw [Bool.and_eq_true] at hb; exact ⟨Nat.eq_of_beq_eq_true hb.1, fun e => (by rw [hk] at e; cases e), by simpa using hb.2⟩
          · cases h
        · cases h
      · split at h
        · split at h
          · rename_i hb; injection h with h; subst h; rw [Bool.and_eq_true] at hb; exact ⟨Nat.eq_of_beq_eq_true hb.1, fun e => (by rw [hk] at e; cases e), by simpa using hb.2⟩
          · cases h
        · cases h
      · cases h
    · cases h
theorem vss_take {ρ : Nm} {l : List SV} {cs : Array Value} (h : VSs ρ l cs.toList) : l.length = cs.size := by have := h.1; simpa using this
theorem eqF_ok {P : Program} {T : Tys} (hT : TysOk P T) {d : Nat} {sh : TypeId → Option (List SK)} {c : TypeId → Bool} (hd : ∀ t a, sh t = some a → c t = true → ∃ y, T t = some y ∧ a.length = y.size ∧ (y.kind.agg = false → y.size = 1) ∧ 0 < y.size ∧ EqIn P d t y.kind.agg a)
    {ρ : Nm} {w : World} : ∀ (fs : List Field) (o : Nat) (ks : List SK) (l l' : List SV) (cs cs' : Array Value) (b : Bool), shpF sh o (fs.map fun f => (f.offset, f.type)) = some ks → cleanF c fs = true → VSs ρ l cs.toList → VSs ρ l' cs'.toList →
    eqCells ks (l.drop o) (l'.drop o) = some b → (Op.eqFields d cs cs' fs).run P w = .ok b w
  | [], o, ks, l, l', cs, cs', b, h, _, _, _, he => by
    simp only [List.map_nil, shpF, Option.some.injEq] at h
    subst h
    have : b = true := by
      cases e1 : l.drop o <;> cases e2 : l'.drop o <;> rw [e1, e2] at he <;> simp [eqCells] at he
      first | exact he | exact he.symm
    subst this
    simp [Op.eqFields]
  | f :: fs, o, ks, l, l', cs, cs', b, h, hc, h1, h2, he => by
    simp only [List.map_cons] at h
    unfold shpF at h
    simp only [] at h
    split at h
    · rename_i ho
      have ho := Nat.eq_of_beq_eq_true ho
      split at h
      · rename_i a ha
        split at h
        · rename_i r hr
          injection h with h; subst h
          unfold cleanF at hc
          rw [Bool.and_eq_true, Bool.and_eq_true] at hc
          obtain ⟨⟨hn, hcl⟩, hc⟩ := hc
          obtain ⟨y, hy, hlen, hsz, hpos, hin⟩ := hd _ _ ha hcl
          obtain ⟨u, v, g1, g2, rfl⟩ := eqCells_append he
          have hL := eqCells_len g1
          have hLl : o + y.size ≤ l.length := by
            have := hL.1; rw [hlen] at this; simp at this; omega
          have hLl' : o + y.size ≤ l'.length := by
            have := hL.2; rw [hlen] at this; simp at this; omega
          obtain ⟨p, p1, p2⟩ := has_part (P := P) hT hy (w := w) h1 o hLl hsz
          obtain ⟨p', p1', p2'⟩ := has_part (P := P) hT hy (w := w) h2 o hLl' hsz
          rw [hlen] at g1 g2
          have hq := hin ρ w _ _ p p' u p2 p2' g1
          have hrest := eqF_ok hT hd (w := w) fs (o + a.length) r l l' cs cs' v hr hc h1 h2 (by rw [hlen]; simpa [List.drop_drop, Nat.add_comm] using g2)
          have hn' : f.name ≠ "_" := by simpa using hn
          unfold Op.eqFields
          rw [if_pos hn', ho]
          simp only [Sem.run_bind, p1, p1', Result.andThen_ok, hq]
          cases u
          · simp
          · simp [hrest]
        · cases h
      · cases h
    · cases h
theorem eqA_ok {P : Program} {T : Tys} (hT : TysOk P T) {d : Nat} {e : TypeId} {a : List SK} {y : Ty} (hy : T e = some y) (hlen : a.length = y.size) (hsz : y.kind.agg = false → y.size = 1) (hpos : 0 < y.size) (hin : EqIn P d e y.kind.agg a)
    {ρ : Nm} {w : World} {l l' : List SV} {cs cs' : Array Value} (h1 : VSs ρ l cs.toList) (h2 : VSs ρ l' cs'.toList) : ∀ (n i : Nat) (b : Bool), eqCells (repL a n) (l.drop (i * y.size)) (l'.drop (i * y.size)) = some b →
      ((forIn (List.range' i n) ((none, ()) : Option Bool × PUnit) fun i r => do
        if !(← Op.equalIn d e (← part e cs (i * y.size)) (← part e cs' (i * y.size))) then pure (ForInStep.done (some false, ())) else pure (ForInStep.yield (none, ()))) : Sem (Option Bool × PUnit)).run P w = .ok (if b then (none, ()) else (some false, ())) w
  | 0, i, b, he => by
    have : b = true := by
      cases e1 : l.drop (i * y.size) <;> cases e2 : l'.drop (i * y.size) <;> rw [e1, e2] at he <;> simp [eqCells, repL] at he
      first | exact he | exact he.symm
    subst this
    simp
  | n + 1, i, b, he => by
    unfold repL at he
    obtain ⟨u, v, g1, g2, rfl⟩ := eqCells_append he
    have hL := eqCells_len g1
    have hLl : i * y.size + y.size ≤ l.length := by
      have := hL.1; rw [hlen] at this; simp at this; omega
    have hLl' : i * y.size + y.size ≤ l'.length := by
      have := hL.2; rw [hlen] at this; simp at this; omega
    obtain ⟨p, p1, p2⟩ := has_part (P := P) hT hy (w := w) h1 (i * y.size) hLl hsz
    obtain ⟨p', p1', p2'⟩ := has_part (P := P) hT hy (w := w) h2 (i * y.size) hLl' hsz
    rw [hlen] at g1 g2
    have hq := hin ρ w _ _ p p' u p2 p2' g1
    have hrest := eqA_ok hT hy hlen hsz hpos hin (w := w) h1 h2 n (i + 1) v (by rw [Nat.succ_mul]; simpa [List.drop_drop, Nat.add_comm] using g2)
    rw [List.range'_succ, List.forIn_cons]
    simp only [Sem.run_bind, p1, p1', Result.andThen_ok, hq]
    cases u
    · simp
    · simp only [Bool.not_true, Bool.false_eq_true, if_false, Sem.run_pure, Result.andThen_ok, Bool.true_and]
      exact hrest
theorem shp_ok {P : Program} {T : Tys} (hT : TysOk P T) : ∀ (d d' : Nat) (t : TypeId) (a : List SK), shp T d t = some a → clean P d t = true → d ≤ d' → ∃ y, T t = some y ∧ a.length = y.size ∧ (y.kind.agg = false → y.size = 1) ∧ 0 < y.size ∧ EqIn P d' t y.kind.agg a
  | 0, _, _, _, h, _, _ => by cases h
  | d + 1, 0, _, _, _, _, h => by omega
  | d + 1, d' + 1, t, a, h, hc, hle => by
    obtain ⟨y, hy, h1, h2, h3⟩ := shp_len h
    refine ⟨y, hy, h1, h2, h3, ?_⟩
    have ih := fun t a h hc => shp_ok hT d d' t a h hc (by omega)
    unfold shp at h
    rw [hy] at h
    simp only [] at h
    split at h <;> rename_i hk
    · split at h
      · injection h with h; subst h; rw [hk]; exact eqIn_int ((hT t y hy).int hk)
      · cases h
    · split at h
      · injection h with h; subst h; rw [hk]; exact eqIn_bool ((hT t y hy).bool hk)
      · cases h
    · split at h
      · injection h with h; subst h; rw [hk]; exact eqIn_str ((hT t y hy).str hk)
      · cases h
    · rename_i fs
      split at h
      · rename_i a' ha'
        split at h
        · injection h with h; subst h
          obtain ⟨fields, hu, hfs⟩ := (hT t y hy).struct hk
          unfold clean at hc
          rw [hu] at hc
          simp only [Bool.and_eq_true, Bool.not_eq_true'] at hc
          rw [hk]
          rintro ρ w l l' v v' b ⟨cs, rfl, g1⟩ ⟨cs', rfl, g2⟩ he
          have hfo : P.fieldsOf t = fields := by unfold Program.fieldsOf; rw [hu]
          rw [run_equalIn_struct w d' t cs cs' (by rw [hfo]; exact hu) hc.1, hfo]
          refine eqF_ok hT (sh := shp T d) (c := clean P d) ih fields.toList 0 _ l l' cs cs' b (by rw [hfs]; exact ha') hc.2 g1 g2 ?_
          simpa using he
        · cases h
      · cases h
    · rename_i n e
      split at h
      · rename_i a' ha'
        split at h
        · injection h with h; subst h
          have hu := (hT t y hy).arr hk
          unfold clean at hc
          rw [hu] at hc
          simp only [] at hc
          obtain ⟨ye, q1, q2, q3, q5, q4⟩ := ih e a' ha' hc
          rw [hk]
          rintro ρ w l l' v v' b ⟨cs, rfl, g1⟩ ⟨cs', rfl, g2⟩ he
          have hz := (hT e ye q1).sizeOf w
          have := eqA_ok hT q1 q2 q3 q5 q4 (w := w) g1 g2 n 0 b (by simpa using he)
          unfold Op.equalIn
          simp only [Sem.run_bind, run_underlying hu, Result.andThen_ok, hz, Std.Legacy.Range.forIn_eq_forIn_range', Std.Legacy.Range.size, Nat.sub_zero, Nat.add_one_sub_one, Nat.add_sub_cancel, Nat.div_one]
          rw [this]
          cases b <;> simp
        · cases h
      · cases h
    · cases h
/-- Structs and arrays of one type. -/
theorem eq_ok {P : Program} {T : Tys} (hT : TysOk P T) {t : TypeId} {y : Ty} {ks : List SK} {l l' : List SV} {b : Bool} (hy : T t = some y) (hag : y.kind.agg = true) (hs : shp T 8 t = some ks) (hc : clean P 8 t = true) (hg : P.eqGuardType P.depth t = false) (he : eqCells ks l l' = some b) : EqOk P t l l' b := by
  intro ρ w cs cs' x z h1 h2
  obtain ⟨y', q1, q2, q3, _, q4⟩ := shp_ok hT 8 10000 t ks hs hc (by omega)
  rw [hy] at q1; injection q1 with q1; subst q1
  rw [hag] at q4
  have hr := q4 ρ w l l' (.agg cs) (.agg cs') b ⟨cs, rfl, h1⟩ ⟨cs', rfl, h2⟩ he
  refine ⟨run_eqGuard_agg w .eql t x z cs cs' hg, run_eqGuard_agg w .neq t x z cs cs' hg, ?_, ?_⟩
  · rw [run_eql_struct, hr]; rfl
  · rw [run_neq_struct, hr]; rfl
end Go.Proofs.Ytcaddlighhiepaa
