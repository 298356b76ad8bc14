/- Operations, reckoned: all of them. -/
import Derived.Test.YtffhbadeoadbkaaRunA
namespace Go.Proofs.Ytffhbadeoadbkaa
open Go Go.RowKit
set_option linter.unusedSimpArgs false
set_option linter.unusedVariables false
variable {α : Type}

def zrow (z : List SV) (n : Nat) : List SV := Nat.rec [] (fun _ ih => z ++ ih) n
theorem zrow_ok (z : List SV) (hz : 0 < z.length) : ∀ n : Nat, (zrow z n).length = n * z.length ∧ ∀ (k : Nat) s, (zrow z n)[k]? = some s → z[k % z.length]? = some s
  | 0 => ⟨by show ([] : List SV).length = _; simp, fun k s h => by have h : ([] : List SV)[k]? = some s := h; simp at h⟩
  | n + 1 => by
    obtain ⟨h1, h2⟩ := zrow_ok z hz n
    have e : zrow z (n + 1) = z ++ zrow z n := rfl
    rw [e]
    refine ⟨by rw [List.length_append, h1, Nat.succ_mul]; omega, fun k s h => ?_⟩
    by_cases hk : k < z.length
    · rw [List.getElem?_append_left hk] at h
      rw [Nat.mod_eq_of_lt hk]; exact h
    · rw [List.getElem?_append_right (by omega)] at h
      have := h2 _ _ h
      rw [Nat.mod_eq_sub_mod (by omega)]; exact this
theorem zrow_nil (n : Nat) : zrow [] n = [] := by
  induction n with
  | zero => rfl
  | succ n ih => exact ih
abbrev CallF := FuncId → List AV → Hp → Nat → Option (List (Nat × Row) × Ef)
def dop {P : Program} (E : EqT P) (T : Tys) (C : CallF) (o : Oper) (tv : Operand → TV) (hp : Hp) (n0 : Nat) (K : KO α) : Option α :=
  match o.op with
  | .move x => K [] ⟨tv x, [], []⟩
  | .assign x => K [] ⟨tv x, [], []⟩
  | .pick c x y => (match tv c with
    | .a (.s (.bool b)) => (match b with | true => K [] ⟨tv x, [], []⟩ | false => K [] ⟨tv y, [], []⟩)
    | _ => none)
  | .binOp op t x y _ => dBin E T op t (tv x) (tv y) fun s => K [] (vs1 s)
  | .unOp op _ x => dUn op (tv x) fun s => K [] (vs1 s)
  | .alloc t => okO (T t) fun y => K [] ⟨.a (.s (.ptr n0 0)), [], [(n0, ⟨true, 1, y.zero⟩)]⟩
  | .box _ x => (match tv x with | .a u => okB (allKnown u.cells) (K [] ⟨.a (.s (.ptr n0 0)), [], [(n0, ⟨true, 1, u.cells⟩)]⟩) | _ => none)
  | .load t x => (match tv x with
    | .a (.s (.ptr i k)) => okO (T t) fun y => (match y.kind.agg with
        | false => okO (hp i) fun r => okO (r.cells[k]?) fun s => K [(i, r)] (vs1 s)
        | true => okO (hp i) fun r => dSeg r.cells k y.size fun l => K [(i, r)] (vv (.agg l)))
    | _ => none)
  | .store t x z => (match tv x, tv z with
    | .a (.s (.ptr i k)), .a u => okO (T t) fun y => okO (hp i) fun r => okB (Nat.beq u.cells.length y.size && allKnown u.cells && r.own && Nat.ble (k + u.cells.length) r.cells.length) (K [(i, r)] ⟨.unk, [(i, some ⟨r.own, r.es, setAll r.cells k u.cells⟩)], []⟩)
    | _, _ => none)
  | .nilCheck x => (match tv x with
    | .a (.s (.ptr i k)) => K [] (vs1 (.ptr i k))
    | .a (.s (.fn (.func f) cap)) => K [] (vs1 (.fn (.func f) cap))
    | _ => none)
  | .fieldAddr t x f => (match tv x with
    | .a (.s (.ptr i k)) => okO (T t) fun y => (match y.kind with
      | .struct fs => okO (fs[f]?) fun p => okO (T p.2) fun yf => (match Nat.beq yf.size 0 with | false => K [] (vs1 (.ptr i (k + p.1))) | true => none)
      | _ => none)
    | _ => none)
  | .indexAddr t x ix => (match tv x, tv ix with
    | .a (.s (.sl i k n)), .a (.s (.int _ z)) => okO (T t) fun y => (match y.kind with
      | .slice e => okO (T e) fun ye => okB (decide (0 ≤ z) && decide (z < n)) (K [] (vs1 (.ptr i (k + z.toNat * ye.size))))
      | _ => none)
    | .a (.s (.ptr i k)), .a (.s (.int _ z)) => okO (T t) fun y => (match y.kind with
      | .array n e => okO (T e) fun ye => okB (decide (0 ≤ z) && decide (z < n)) (K [] (vs1 (.ptr i (k + z.toNat * ye.size))))
      | _ => none)
    | _, _ => none)
  | .index t x ix => (match tv x, tv ix with
    | .a (.s (.str s)), .a (.s (.int _ z)) => okO (T t) fun y => (match y.kind with
      | .str => okB (decide (0 ≤ z)) (okO (s.data.toList[z.toNat]?) fun b => K [] (vs1 (.int .u8 b.toNat)))
      | _ => none)
    | .a (.agg l), .a (.s (.int _ z)) => okO (T t) fun y => (match y.kind with
      | .array n e => okO (T e) fun ye => okB (decide (0 ≤ z) && decide (z < n)) (okO (partS ye l (z.toNat * ye.size)) fun u => K [] (vv u))
      | _ => none)
    | _, _ => none)
  | .field t x f => (match tv x with
    | .a (.agg l) => okO (T t) fun y => (match y.kind with
      | .struct fs => okO (fs[f]?) fun p => okO (T p.2) fun yf => okO (partS yf l p.1) fun u => K [] (vv u)
      | _ => none)
    | _ => none)
  | .extract x k => (match tv x with | .tup l => okO (l[k]?) fun u => K [] (vv u) | _ => none)
  | .build t parts => okO (T t) fun y => okO (partsS tv parts.toList) fun ps => (match y.kind with
      | .struct fs => okO (placesS T fs) fun pl => okO (fillS (fun i => pl[i]?) y.zero ps) fun l => K [] (vv (.agg l))
      | .array _ e => okO (T e) fun ye => okO (fillS (fun i => some (i * ye.size, ye.size)) y.zero ps) fun l => K [] (vv (.agg l))
      | _ => none)
  | .buildSlice t n parts => okO (T t) fun y => okO (partsS tv parts.toList) fun ps => (match y.kind with
      | .slice e => okO (T e) fun ye => (match Nat.ble (n * ye.size) 16777216 with
          | true => okO (fillS (fun i => some (i * ye.size, ye.size)) (List.replicate (n * ye.size) .unk) ps) fun l => okB (Nat.beq l.length (n * ye.size)) (K [] ⟨.a (.s (.sl n0 0 n)), [], [(n0, ⟨true, ye.size, l⟩)]⟩)
          | false => none)
      | _ => none)
  | .makeSlice t x y => (match tv x, tv y with
    | .a (.s (.int _ l)), .a (.s (.int _ c)) => okO (T t) fun yt => (match yt.kind with
      | .slice e => okO (T e) fun ye => okB (decide (0 ≤ l) && decide (l ≤ c) && decide (ye.bytes * c ≤ 140737488355328) && decide (c ≤ 9223372036854775807) && Nat.blt 0 ye.size && Nat.beq ye.zero.length ye.size) (K [] ⟨.a (.s (.sl n0 0 l.toNat)), [], [(n0, ⟨true, ye.size, zrow ye.zero l.toNat⟩)]⟩)
      | _ => none)
    | _, _ => none)
  | .slice t x lo hi none => dSlice T hp t (tv x) (fun d => bndS tv (d.getD 0) lo) (fun d => bndS tv (d.getD 0) hi) K
  | .convert s d x => dConv T hp s d (tv x) K
  | .makeFunc f first cs => (match first.toList with
    | [] => okO (capsS tv cs.toList) fun cap => K [] (vs1 (.fn f cap))
    | _ => none)
  | .call c => (match c.callee with
    | .value fo => (match tv fo with
      | .a (.s (.fn (.func f) cap)) => okO (avs tv c.args.toList) fun l => okO (C f (l ++ capA cap) hp n0) fun p => K p.1 p.2
      | _ => none)
    | .builtin .len => (match c.args.toList, c.argTypes.toList with | [x], [t] => dLen T t (tv x) fun s => K [] (vs1 s) | _, _ => none)
    | .builtin .append => (match c.args.toList, c.argTypes.toList with | [x, y], [t, tx] => dAppend T hp n0 t tx (tv x) (tv y) K | _, _ => none)
    | .builtin .copy => (match c.args.toList, c.argTypes.toList with | [x, y], [t, _] => dCopy T hp t (tv x) (tv y) K | _, _ => none)
    | .builtin .min => (match c.args.toList with
      | x :: l => (match tv x with
        | .a (.s (.int k _)) => (match intsS tv k (x :: l) with | some (z :: r) => K [] (vs1 (.int k (minL z r))) | _ => none)
        | _ => none)
      | _ => none)
    | _ => none)
  | _ => none
theorem bget (s : ByteArray) (i : Nat) : s[i]? = s.data.toList[i]? := by
  rw [Array.getElem?_toList]
  show (if h : i < s.size then some s[i] else none) = _
  by_cases h : i < s.size
  · rw [dif_pos h, Array.getElem?_eq_getElem h]; rfl
  · rw [dif_neg h, Array.getElem?_eq_none (by have : s.data.size = s.size := rfl; omega)]
theorem dop_ok {P : Program} {E : EqT P} {T : Tys} {C : CallF} {det : Bool} (hC : ∀ f l hp n0 fp e, C f l hp n0 = some (fp, e) → ∀ K' : KK, K' fp e → vCall P det f l hp n0 K') {o : Oper} {tv : Operand → TV} {hp : Hp} {n0 : Nat} {K : KO α} {K' : KK} {x : α}
    (hK : ∀ a b, K a b = some x → K' a b) (h : dop E T C o tv hp n0 K = some x) : vop P T det o tv hp n0 K' := by
  unfold dop at h
  unfold vop
  generalize o.op = op at h ⊢
  cases op <;> (try dsimp only at h ⊢) <;> try (exfalso; cases h; done)
  case move => exact hK _ _ h
  case assign => exact hK _ _ h
  case pick =>
    split at h
    · rename_i hc
      rw [hc]
      split at h
      · exact hK _ _ h
      · exact hK _ _ h
    · cases h
  case binOp => exact dBin_ok (fun s hs => hK _ _ hs) h
  case unOp => exact dUn_ok (fun s hs => hK _ _ hs) h
  case alloc =>
    obtain ⟨y, h1, h2⟩ := okO_some h
    rw [h1]; simp only [fL_iff]; exact hK _ _ h2
  case box =>
    split at h
    · rename_i hv
      obtain ⟨h1, h2⟩ := okB_some h
      rw [hv]; simp only [fA_iff]; exact ⟨h1, hK _ _ h2⟩
    · cases h
  case load =>
    split at h
    · rename_i hv
      obtain ⟨y, h1, h2⟩ := okO_some h
      rw [hv, h1]
      dsimp only
      split at h2
      · rename_i ha
        rw [ha]
        obtain ⟨r, h3, h4⟩ := okO_some h2
        obtain ⟨s, h5, h6⟩ := okO_some h4
        exact ⟨r, h3, s, h5, hK _ _ h6⟩
      · rename_i ha
        rw [ha]
        obtain ⟨r, h3, h4⟩ := okO_some h2
        obtain ⟨l, h5, h6⟩ := dSeg_ok h4
        exact ⟨r, h3, l, h5, hK _ _ h6⟩
    · cases h
  case store =>
    split at h
    · rename_i hv hz
      obtain ⟨y, h1, h2⟩ := okO_some h
      obtain ⟨r, h3, h4⟩ := okO_some h2
      obtain ⟨h4, h5⟩ := okB_some h4
      simp only [Bool.and_eq_true] at h4
      rw [hv, hz, h1]
      simp only [fA_iff]
      exact ⟨r, h3, ⟨Nat.eq_of_beq_eq_true h4.1.1.1, h4.1.1.2, h4.1.2, Nat.le_of_ble_eq_true h4.2⟩, _, rfl, hK _ _ h5⟩
    · cases h
  case nilCheck =>
    split at h
    · rename_i hv; rw [hv]; exact hK _ _ h
    · rename_i hv; rw [hv]; exact hK _ _ h
    · cases h
  case fieldAddr =>
    split at h
    · rename_i hv
      obtain ⟨y, h1, h2⟩ := okO_some h
      rw [hv, h1]
      dsimp only
      split at h2
      · rename_i hk
        obtain ⟨p, h3, h4⟩ := okO_some h2
        obtain ⟨yf, h5, h6⟩ := okO_some h4
        simp only [hk, h3, h5]
        split at h6
        · rename_i hb; simp only [hb]; exact hK _ _ h6
        · cases h6
      · cases h2
    · cases h
  case indexAddr =>
    split at h
    · rename_i hv hz
      obtain ⟨y, h1, h2⟩ := okO_some h
      rw [hv, hz, h1]
      dsimp only
      split at h2
      · rename_i hk
        obtain ⟨ye, h3, h4⟩ := okO_some h2
        obtain ⟨h4, h5⟩ := okB_some h4
        simp only [Bool.and_eq_true, decide_eq_true_eq] at h4
        simp only [hk, h3]
        exact ⟨h4, _, rfl, hK _ _ h5⟩
      · cases h2
    · rename_i hv hz
      obtain ⟨y, h1, h2⟩ := okO_some h
      rw [hv, hz, h1]
      dsimp only
      split at h2
      · rename_i hk
        obtain ⟨ye, h3, h4⟩ := okO_some h2
        obtain ⟨h4, h5⟩ := okB_some h4
        simp only [Bool.and_eq_true, decide_eq_true_eq] at h4
        simp only [hk, h3]
        exact ⟨h4, _, rfl, hK _ _ h5⟩
      · cases h2
    · cases h
  case index =>
    split at h
    · rename_i hv hz
      obtain ⟨y, h1, h2⟩ := okO_some h
      rw [hv, hz, h1]
      dsimp only
      split at h2
      · rename_i hk
        obtain ⟨h3, h4⟩ := okB_some h2
        obtain ⟨b, h5, h6⟩ := okO_some h4
        exact ⟨⟨hk, of_decide_eq_true h3⟩, b, by rw [bget]; exact h5, hK _ _ h6⟩
      · cases h2
    · rename_i hv hz
      obtain ⟨y, h1, h2⟩ := okO_some h
      rw [hv, hz, h1]
      dsimp only
      split at h2
      · rename_i hk
        obtain ⟨ye, h3, h4⟩ := okO_some h2
        obtain ⟨h4, h5⟩ := okB_some h4
        obtain ⟨u, h6, h7⟩ := okO_some h5
        simp only [Bool.and_eq_true, decide_eq_true_eq] at h4
        simp only [hk, h3]
        exact ⟨h4, u, h6, hK _ _ h7⟩
      · cases h2
    · cases h
  case field =>
    split at h
    · rename_i hv
      obtain ⟨y, h1, h2⟩ := okO_some h
      rw [hv, h1]
      dsimp only
      split at h2
      · rename_i hk
        obtain ⟨p, h3, h4⟩ := okO_some h2
        obtain ⟨yf, h5, h6⟩ := okO_some h4
        obtain ⟨u, h7, h8⟩ := okO_some h6
        simp only [hk, h3, h5]
        exact ⟨u, h7, hK _ _ h8⟩
      · cases h2
    · cases h
  case extract =>
    split at h
    · rename_i hv
      obtain ⟨u, h1, h2⟩ := okO_some h
      rw [hv]
      simp only [h1]; exact hK _ _ h2
    · cases h
  case build =>
    obtain ⟨y, h1, h2⟩ := okO_some h
    obtain ⟨ps, h3, h4⟩ := okO_some h2
    rw [h1, h3]
    dsimp only
    split at h4
    · rename_i hk
      obtain ⟨pl, h5, h6⟩ := okO_some h4
      obtain ⟨l, h7, h8⟩ := okO_some h6
      simp only [hk, h5]
      exact ⟨l, h7, hK _ _ h8⟩
    · rename_i hk
      obtain ⟨pl, h5, h6⟩ := okO_some h4
      obtain ⟨l, h7, h8⟩ := okO_some h6
      simp only [hk, h5]
      exact ⟨l, h7, hK _ _ h8⟩
    · cases h4
  case buildSlice =>
    obtain ⟨y, h1, h2⟩ := okO_some h
    obtain ⟨ps, h3, h4⟩ := okO_some h2
    rw [h1, h3]
    dsimp only
    split at h4
    · rename_i hk
      obtain ⟨ye, h5, h6⟩ := okO_some h4
      simp only [hk, h5]
      split at h6
      · rename_i hb
        obtain ⟨l, h7, h8⟩ := okO_some h6
        obtain ⟨h8, h9⟩ := okB_some h8
        simp only [hb]
        exact ⟨l, h7, Nat.eq_of_beq_eq_true h8, hK _ _ h9⟩
      · cases h6
    · cases h4
  case makeSlice =>
    split at h
    · rename_i hv hz
      obtain ⟨yt, h1, h2⟩ := okO_some h
      rw [hv, hz, h1]
      dsimp only
      split at h2
      · rename_i hk
        obtain ⟨ye, h3, h4⟩ := okO_some h2
        obtain ⟨h4, h5⟩ := okB_some h4
        simp only [Bool.and_eq_true, decide_eq_true_eq] at h4
        simp only [hk, h3]
        obtain ⟨⟨⟨⟨⟨g1, g2⟩, g3⟩, g4⟩, g5⟩, g6⟩ := h4
        have g6 := Nat.eq_of_beq_eq_true g6
        have g5 : 0 < ye.size := by simpa using g5
        refine ⟨⟨g1, g2, g3, g4⟩, _, rfl, _, ?_, hK _ _ h5⟩
        obtain ⟨q1, q2⟩ := zrow_ok ye.zero (by omega) (Int.toNat _)
        rw [g6] at q1 q2
        exact ⟨q1, q2⟩
      · cases h2
    · cases h
  case slice t y lo hi mx =>
    cases mx with
    | some m => cases h
    | none => exact dSlice_ok hK h
  case convert => exact dConv_ok hK h
  case makeFunc =>
    split at h
    · rename_i hf
      obtain ⟨cap, h1, h2⟩ := okO_some h
      simp only [hf, h1]; exact hK _ _ h2
    · cases h
  case call c =>
    split at h
    · rename_i hcal
      rw [hcal]
      dsimp only
      split at h
      · rename_i hfo
        obtain ⟨l, h1, h2⟩ := okO_some h
        obtain ⟨p, h3, h4⟩ := okO_some h2
        obtain ⟨fp, e⟩ := p
        simp only [hfo, h1]
        exact hC _ _ _ _ _ _ h3 K' (hK _ _ h4)
      · cases h
    · rename_i hcal
      rw [hcal]
      dsimp only
      split at h
      · rename_i h1 h2
        simp only [h1, h2]
        exact dLen_ok (fun s hs => hK _ _ hs) h
      · cases h
    · rename_i hcal
      rw [hcal]
      dsimp only
      split at h
      · rename_i h1 h2
        simp only [h1, h2]
        exact dAppend_ok hK h
      · cases h
    · rename_i hcal
      rw [hcal]
      dsimp only
      split at h
      · rename_i h1 h2
        simp only [h1, h2]
        exact dCopy_ok hK h
      · cases h
    · rename_i hcal
      rw [hcal]
      dsimp only
      split at h
      · rename_i h1
        simp only [h1]
        split at h
        · rename_i h2
          simp only [h2]
          split at h
          · rename_i h3
            simp only [h3]
            exact ⟨_, rfl, hK _ _ h⟩
          · cases h
        · cases h
      · cases h
    · cases h
end Go.Proofs.Ytffhbadeoadbkaa
