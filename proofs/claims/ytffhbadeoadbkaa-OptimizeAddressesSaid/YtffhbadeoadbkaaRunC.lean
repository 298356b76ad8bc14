/- Regions and code, reckoned. -/
import Derived.Test.YtffhbadeoadbkaaRunB
namespace Go.Proofs.Ytffhbadeoadbkaa
open Go Go.RowKit
set_option linter.unusedSimpArgs false
set_option linter.unusedVariables false
variable {α : Type}

noncomputable def fNat (n : Nat) (K : Nat → Option α) : Option α := Nat.rec (K 0) (fun m _ => K (Nat.succ m)) n
theorem fNat_eq (n : Nat) (K : Nat → Option α) : fNat n K = K n := by cases n <;> rfl
noncomputable def fInt (z : Int) (K : Int → Option α) : Option α := Int.rec (fun n => fNat n fun n => K (Int.ofNat n)) (fun n => fNat n fun n => K (Int.negSucc n)) z
theorem fInt_eq (z : Int) (K : Int → Option α) : fInt z K = K z := by
  cases z with
  | ofNat n => exact fNat_eq n fun n => K (Int.ofNat n)
  | negSucc n => exact fNat_eq n fun n => K (Int.negSucc n)
noncomputable def fU (l : List UInt8) : (List UInt8 → Option α) → Option α := List.rec (fun K => K []) (fun b _ ih K => fNat b.toNat fun n => ih fun l => K (UInt8.ofNat n :: l)) l
theorem fU_eq : ∀ (l : List UInt8) (K : List UInt8 → Option α), fU l K = K l
  | [], K => rfl
  | b :: l, K => by
    show fNat b.toNat (fun n => fU l fun l => K (UInt8.ofNat n :: l)) = _
    rw [fNat_eq, fU_eq l, UInt8.ofNat_toNat]
/-- A value taken to its head; with fc to its literals. -/
noncomputable def fSV (fc : Bool) (s : SV) (K : SV → Option α) : Option α := match s with
  | .unk => K .unk
  | .bool b => (match fc with
    | true => (match b with | true => K (.bool true) | false => K (.bool false))
    | false => K (.bool b))
  | .int k n => (match fc with
    | true => fInt n fun n => K (.int k n)
    | false => K (.int k n))
  | .str s => (match fc with
    | true => fU s.data.toList fun l => K (.str ⟨⟨l⟩⟩)
    | false => K (.str s))
  | .nil => K .nil
  | .ptr i o => fNat i fun i => fNat o fun o => K (.ptr i o)
  | .nilsl => K .nilsl
  | .sl i o n => fNat i fun i => fNat o fun o => fNat n fun n => K (.sl i o n)
  | .fn f c => K (.fn f c)
theorem fSV_eq (fc : Bool) (s : SV) (K : SV → Option α) : fSV fc s K = K s := by
  cases s <;> cases fc <;> simp only [fSV, fNat_eq, fInt_eq, fU_eq]
  case bool.true b => cases b <;> rfl
noncomputable def fCells (fc : Bool) (l : List SV) : (List SV → Option α) → Option α := List.rec (fun K => K []) (fun s _ ih K => fSV fc s fun s => ih fun l => K (s :: l)) l
theorem fCells_eq (fc : Bool) : ∀ (l : List SV) (K : List SV → Option α), fCells fc l K = K l
  | [], K => rfl
  | s :: l, K => by
    show fSV fc s (fun s => fCells fc l fun l => K (s :: l)) = _
    rw [fSV_eq, fCells_eq fc l]
noncomputable def fAV (fc : Bool) (v : AV) (K : AV → Option α) : Option α := match v with
  | .s s => fSV fc s fun s => K (.s s)
  | .agg l => fCells fc l fun l => K (.agg l)
theorem fAV_eq (fc : Bool) (v : AV) (K : AV → Option α) : fAV fc v K = K v := by
  cases v
  · exact fSV_eq fc _ fun s => K (.s s)
  · exact fCells_eq fc _ fun l => K (.agg l)
noncomputable def fAVs (fc : Bool) (l : List AV) : (List AV → Option α) → Option α := List.rec (fun K => K []) (fun s _ ih K => fAV fc s fun s => ih fun l => K (s :: l)) l
theorem fAVs_eq (fc : Bool) : ∀ (l : List AV) (K : List AV → Option α), fAVs fc l K = K l
  | [], K => rfl
  | s :: l, K => by
    show fAV fc s (fun s => fAVs fc l fun l => K (s :: l)) = _
    rw [fAV_eq, fAVs_eq fc l]
noncomputable def fTV (fc : Bool) (v : TV) (K : TV → Option α) : Option α := match v with
  | .unk => K .unk
  | .a x => fAV fc x fun x => K (.a x)
  | .tup l => fAVs fc l fun l => K (.tup l)
theorem fTV_eq (fc : Bool) (v : TV) (K : TV → Option α) : fTV fc v K = K v := by
  cases v
  · rfl
  · exact fAV_eq fc _ fun x => K (.a x)
  · exact fAVs_eq fc _ fun l => K (.tup l)
noncomputable def fRow (fc : Bool) (r : Row) (K : Row → Option α) : Option α := match r with
  | ⟨o, e, c⟩ => fCells fc c fun c => fNat e fun e => (match o with | true => K ⟨true, e, c⟩ | false => K ⟨false, e, c⟩)
theorem fRow_eq (fc : Bool) (r : Row) (K : Row → Option α) : fRow fc r K = K r := by
  obtain ⟨o, e, c⟩ := r
  simp only [fRow, fCells_eq, fNat_eq]
  cases o <;> rfl
noncomputable def fRowO (fc : Bool) (r : Option Row) (K : Option Row → Option α) : Option α := match r with
  | some r => fRow fc r fun r => K (some r)
  | none => K none
theorem fRowO_eq (fc : Bool) (r : Option Row) (K : Option Row → Option α) : fRowO fc r K = K r := by
  cases r
  · rfl
  · exact fRow_eq fc _ fun r => K (some r)

/-- Looking up by the recursor. -/
noncomputable def lk {β : Type} (l : List (Nat × β)) (n : Nat) : Option β := List.rec none (fun p _ ih => match Nat.beq n p.1 with
  | true => some p.2
  | false => ih) l
theorem lk_eq {β : Type} (n : Nat) : ∀ l : List (Nat × β), lk l n = look l n
  | [] => rfl
  | p :: l => by
    show (match Nat.beq n p.1 with | true => some p.2 | false => lk l n) = _
    rw [lk_eq n l]; rfl
noncomputable def tmR (tm : Tm) (t : Nat) : TV := match lk tm t with
  | some v => v
  | none => .unk
theorem tmR_eq (tm : Tm) : tmR tm = tmG tm := by funext t; unfold tmR tmG; rw [lk_eq]; rfl
/-- Set, in the place where it stood. -/
noncomputable def putL {β : Type} (l : List (Nat × β)) (t : Nat) (v : β) : (List (Nat × β) → Option α) → Option α :=
  List.rec (fun K => K [(t, v)]) (fun p l ih K => match Nat.beq p.1 t with
    | true => K ((t, v) :: l)
    | false => ih fun l => K (p :: l)) l
theorem putL_some {β : Type} {t : Nat} {v : β} {x : α} : ∀ {l : List (Nat × β)} {K : List (Nat × β) → Option α}, putL l t v K = some x →
    ∃ l', K l' = some x ∧ (∀ n, look l' n = if n = t then some v else look l n) ∧ (∀ p ∈ l', p = (t, v) ∨ p ∈ l)
  | [], K, h => ⟨[(t, v)], h, fun n => by rw [look_cons], fun p hp => by simp at hp; exact .inl hp⟩
  | p :: l, K, h => by
    obtain ⟨k, y⟩ := p
    change (match Nat.beq k t with | true => K ((t, v) :: l) | false => putL l t v fun l => K ((k, y) :: l)) = some x at h
    split at h
    · rename_i hb
      have := Nat.eq_of_beq_eq_true hb
      subst this
      refine ⟨_, h, fun n => ?_, fun q hq => ?_⟩
      · rw [look_cons, look_cons]; split <;> rfl
      · rcases List.mem_cons.1 hq with h | h
        · exact .inl h
        · exact .inr (by simp [h])
    · rename_i hb
      have hne := Nat.ne_of_beq_eq_false hb
      obtain ⟨l', h1, h2, h3⟩ := putL_some h
      refine ⟨_, h1, fun n => ?_, fun q hq => ?_⟩
      · rw [look_cons, look_cons, h2]
        by_cases e1 : n = k
        · subst e1; rw [if_pos rfl, if_neg hne, if_pos rfl]
        · rw [if_neg e1, if_neg e1]
      · rcases List.mem_cons.1 hq with h | h
        · exact .inr (by simp [h])
        · rcases h3 q h with h | h
          · exact .inl h
          · exact .inr (by simp [h])
noncomputable def putV (fc : Bool) (tm : Tm) (d : Option Nat) (v : TV) (K : Tm → Option α) : Option α := match d with
  | some d => fTV fc v fun v => putL tm d v K
  | none => K tm
theorem putV_some {fc : Bool} {tm tm' : Tm} {d : Option Nat} {v : TV} {K : Tm → Option α} {x : α} (h : putV fc tm d v K = some x) (hs : tmG tm' = tmG tm) : ∃ tm1, K tm1 = some x ∧ tmG (putT tm' d v) = tmG tm1 := by
  unfold putV at h
  cases d with
  | none => exact ⟨tm, h, hs⟩
  | some d =>
    simp only [fTV_eq] at h
    obtain ⟨l, h1, h2, _⟩ := putL_some h
    refine ⟨l, h1, ?_⟩
    funext t
    show tmG ((d, v) :: tm') t = _
    rw [tmG_cons, hs]
    unfold tmG
    rw [h2]
    split
    · rfl
    · rfl
/-- Rows, and whether they were touched. -/
structure En where
  (d : Bool) (r : Option Row)
abbrev HE := List (Nat × En)
noncomputable def hpE (h : HE) : Hp := fun n => match lk h n with
  | some e => e.r
  | none => none
noncomputable def upE (fc : Bool) (u : List (Nat × Option Row)) : HE → (HE → Option α) → Option α := List.rec (fun h K => K h) (fun p _ ih h K => ih h fun h => fRowO fc p.2 fun r => fNat p.1 fun n => putL h n ⟨true, r⟩ K) u
noncomputable def nwE (fc : Bool) (u : List (Nat × Row)) : HE → (HE → Option α) → Option α := List.rec (fun h K => K h) (fun p _ ih h K => ih h fun h => fRow fc p.2 fun r => fNat p.1 fun n => putL h n ⟨true, some r⟩ K) u
noncomputable def appE (fc : Bool) (e : Ef) (h : HE) (K : HE → Option α) : Option α := upE fc e.up h fun h => nwE fc e.nw h K
/-- What was not touched is as it was. -/
noncomputable def Cln (H : List Row) (h : HE) : Prop := ∀ p ∈ h, p.2.d = false → p.2.r = H[p.1]?
theorem hpE_put {l l' : HE} {t : Nat} {e : En} (h : ∀ n, look l' n = if n = t then some e else look l n) : hpE l' = Hp.set (hpE l) t e.r := by
  funext n
  show (match lk l' n with | some e => e.r | none => none) = if n = t then e.r else (match lk l n with | some e => e.r | none => none)
  rw [lk_eq, lk_eq, h]
  by_cases hn : n = t
  · rw [if_pos hn, if_pos hn]
  · rw [if_neg hn, if_neg hn]
theorem cln_put {H : List Row} {l l' : HE} {t : Nat} {r : Option Row} (h : ∀ p ∈ l', p = (t, (⟨true, r⟩ : En)) ∨ p ∈ l) (hc : Cln H l) : Cln H l' := fun p hp hd => by
  rcases h p hp with rfl | h
  · cases hd
  · exact hc p h hd
theorem upE_some {fc : Bool} {H : List Row} {x : α} : ∀ {u : List (Nat × Option Row)} {h : HE} {K : HE → Option α}, upE fc u h K = some x → Cln H h → ∀ h' : Hl, hpG h' = hpE h → ∃ h1, K h1 = some x ∧ hpG (upL u h') = hpE h1 ∧ Cln H h1
  | [], h, K, hq, hc, h', he => ⟨h, hq, he, hc⟩
  | p :: u, h, K, hq, hc, h', he => by
    change upE fc u h (fun h => fRowO fc p.2 fun r => fNat p.1 fun n => putL h n ⟨true, r⟩ K) = some x at hq
    obtain ⟨h1, g1, g2, g3⟩ := upE_some hq hc h' he
    rw [fRowO_eq, fNat_eq] at g1
    obtain ⟨h2, g4, g5, g6⟩ := putL_some g1
    refine ⟨h2, g4, ?_, cln_put g6 g3⟩
    obtain ⟨n, r⟩ := p
    show hpG ((n, r) :: upL u h') = _
    rw [hpG_cons, g2, hpE_put g5]
theorem nwE_some {fc : Bool} {H : List Row} {x : α} : ∀ {u : List (Nat × Row)} {h : HE} {K : HE → Option α}, nwE fc u h K = some x → Cln H h → ∀ h' : Hl, hpG h' = hpE h → ∃ h1, K h1 = some x ∧ hpG (nwL u h') = hpE h1 ∧ Cln H h1
  | [], h, K, hq, hc, h', he => ⟨h, hq, he, hc⟩
  | p :: u, h, K, hq, hc, h', he => by
    change nwE fc u h (fun h => fRow fc p.2 fun r => fNat p.1 fun n => putL h n ⟨true, some r⟩ K) = some x at hq
    obtain ⟨h1, g1, g2, g3⟩ := nwE_some hq hc h' he
    rw [fRow_eq, fNat_eq] at g1
    obtain ⟨h2, g4, g5, g6⟩ := putL_some g1
    refine ⟨h2, g4, ?_, cln_put g6 g3⟩
    obtain ⟨n, r⟩ := p
    show hpG ((n, some r) :: nwL u h') = _
    rw [hpG_cons, g2, hpE_put g5]
theorem appE_some {fc : Bool} {H : List Row} {x : α} {e : Ef} {h : HE} {K : HE → Option α} (hq : appE fc e h K = some x) (hc : Cln H h) {h' : Hl} (he : hpG h' = hpE h) : ∃ h1, K h1 = some x ∧ hpG (appL e h') = hpE h1 ∧ Cln H h1 := by
  obtain ⟨h1, g1, g2, g3⟩ := upE_some hq hc h' he
  exact nwE_some g1 g3 _ g2
noncomputable def recO (det : Bool) (d : Did) (l : List Did) (K : List Did → Option α) : Option α := match det with
  | true => K (d :: l)
  | false => K l
section
variable {P : Program} (E : EqT P) (T : Tys) (fc : Bool) (C : CallF)
noncomputable def dregS (det : Bool) (all : List Oper) (base : Nat) (o : Oper) (ih : Nat → Tm → HE → List Did → (Tm → HE → List Did → Option α) → Option α) (i : Nat) (tm : Tm) (h : HE) (rec : List Did) (K : Tm → HE → List Did → Option α) : Option α :=
  match o.guard with
    | none => fNat (base + stride * i) fun n0 => dop E T C o (evF (tmR tm)) (hpE h) n0 fun fp e => putV fc tm o.dst e.v fun tm => appE fc e h fun h => recO det (.did fp e) rec fun rec => fNat (i + 1) fun i => ih i tm h rec K
    | some (j, want) => match dstAt all j with
      | some t => (match tmR tm t with
        | .a (.s (.bool b)) => (match Bool.xor b want with
          | false => fNat (base + stride * i) fun n0 => dop E T C o (evF (tmR tm)) (hpE h) n0 fun fp e => putV fc tm o.dst e.v fun tm => appE fc e h fun h => recO det (.did fp e) rec fun rec => fNat (i + 1) fun i => ih i tm h rec K
          | true => putV fc tm o.dst (.tup []) fun tm => recO det .skip rec fun rec => fNat (i + 1) fun i => ih i tm h rec K)
        | .tup _ => putV fc tm o.dst (.tup []) fun tm => recO det .skip rec fun rec => fNat (i + 1) fun i => ih i tm h rec K
        | _ => none)
      | none => none
noncomputable def dreg (det : Bool) (all : List Oper) (base : Nat) (i : Nat) (l : List Oper) : Tm → HE → List Did → (Tm → HE → List Did → Option α) → Option α :=
  List.rec (motive := fun _ => Nat → Tm → HE → List Did → (Tm → HE → List Did → Option α) → Option α) (fun _ tm h rec K => K tm h rec) (fun o _ ih => dregS E T fc C det all base o ih) l i
variable {E T fc C}
theorem dreg_ok {H : List Row} {det : Bool} (hC : ∀ f l hp n0 fp e, C f l hp n0 = some (fp, e) → ∀ K' : KK, K' fp e → vCall P det f l hp n0 K') {all : List Oper} {base : Nat} {x : α} {K : Tm → HE → List Did → Option α} {K' : Tm → Hl → List Did → Prop}
    (hK : ∀ tm h rec tm' h', K tm h rec = some x → tmG tm' = tmG tm → hpG h' = hpE h → Cln H h → K' tm' h' rec) : ∀ (l : List Oper) (i : Nat) (tm : Tm) (h : HE) (rec : List Did) (tm' : Tm) (h' : Hl),
    dreg E T fc C det all base i l tm h rec K = some x → tmG tm' = tmG tm → hpG h' = hpE h → Cln H h → vreg P T det all base i l tm' h' rec K'
  | [], i, tm, h, rec, tm', h', hq, h1, h2, h3 => hK _ _ _ _ _ hq h1 h2 h3
  | o :: l, i, tm, h, rec, tm', h', hq, h1, h2, h3 => by
    change dregS E T fc C det all base o (fun i => dreg E T fc C det all base i l) i tm h rec K = some x at hq
    rw [vreg_cons]
    unfold dregS at hq
    unfold vregS
    have step : ∀ tm1 : Tm, tmG tm1 = tmG tm → (fNat (base + stride * i) fun n0 => dop E T C o (evF (tmR tm)) (hpE h) n0 fun fp e => putV fc tm o.dst e.v fun tm => appE fc e h fun h => recO det (.did fp e) rec fun rec => fNat (i + 1) fun i => dreg E T fc C det all base i l tm h rec K) = some x →
        vop P T det o (evF (tmG tm1)) (hpG h') (base + stride * i) (fun fp e => putK tm1 o.dst e.v fun tm => appK e h' fun h => recK det (.did fp e) rec fun rec => fN (i + 1) fun i => vreg P T det all base i l tm h rec K') := by
      intro tm1 htm hq
      rw [fNat_eq, tmR_eq] at hq
      rw [htm, h2]
      refine dop_ok hC (fun fp e hq => ?_) hq
      obtain ⟨tm2, g1, g2⟩ := putV_some hq htm
      obtain ⟨h2', g3, g4, g5⟩ := appE_some g1 h3 h2
      simp only [putK_iff, appK_iff, fN_iff]
      unfold recO at g3
      unfold recK
      cases det with
      | true =>
        simp only [fNat_eq, fN_iff] at g3 ⊢
        exact dreg_ok hC hK l _ _ _ _ _ _ g3 g2 g4 g5
      | false =>
        simp only [fNat_eq, fN_iff] at g3 ⊢
        exact dreg_ok hC hK l _ _ _ _ _ _ g3 g2 g4 g5
    cases hg : o.guard with
    | none =>
      rw [hg] at hq
      exact step tm' h1 hq
    | some g =>
      obtain ⟨j, want⟩ := g
      rw [hg] at hq
      simp only [] at hq ⊢
      cases hd : dstAt all j with
      | none => rw [hd] at hq; cases hq
      | some t =>
        rw [hd] at hq
        simp only [] at hq ⊢
        rw [tmR_eq] at hq
        rw [h1]
        split at hq
        · rename_i b hb
          rw [hb]
          simp only []
          rw [fB_iff]
          refine ⟨fun e => ?_, fun e => ?_⟩
          · subst e
            rw [show Bool.xor b b = false by cases b <;> rfl] at hq
            exact step _ ((tmG_same _ _ _ (by rw [h1, hb])).trans h1) (by rw [tmR_eq]; exact hq)
          · rw [e, show Bool.xor (!want) want = true by cases want <;> rfl] at hq
            obtain ⟨tm2, g1, g2⟩ := putV_some (tm' := (t, .a (.s (.bool !want))) :: tm') hq ((tmG_same _ _ _ (by rw [h1, hb, e])).trans h1)
            simp only [putK_iff]
            unfold recO at g1
            unfold recK
            cases det with
            | true =>
              simp only [fNat_eq, fN_iff] at g1 ⊢
              exact dreg_ok hC hK l _ _ _ _ _ _ g1 g2 h2 h3
            | false =>
              simp only [fNat_eq, fN_iff] at g1 ⊢
              exact dreg_ok hC hK l _ _ _ _ _ _ g1 g2 h2 h3
        · rename_i q hb
          rw [hb]
          simp only []
          obtain ⟨tm2, g1, g2⟩ := putV_some (tm' := tm') hq h1
          simp only [putK_iff]
          unfold recO at g1
          unfold recK
          cases det with
          | true =>
            simp only [fNat_eq, fN_iff] at g1 ⊢
            exact dreg_ok hC hK l _ _ _ _ _ _ g1 g2 h2 h3
          | false =>
            simp only [fNat_eq, fN_iff] at g1 ⊢
            exact dreg_ok hC hK l _ _ _ _ _ _ g1 g2 h2 h3
        · cases hq
variable (E T fc C)
/-- The regions run, by number. -/
noncomputable def dn (n : Nat) : List Nat := Nat.rec [0] (fun m ih => (m + 1) :: ih) n
theorem dn_hd (n : Nat) : hdN (dn n) = n := by cases n <;> rfl
theorem dn_mem : ∀ (n k : Nat), n < k → memB k (dn n) = false
  | 0, k, h => by
    show (match Nat.beq k 0 with | true => true | false => false) = false
    cases hb : Nat.beq k 0 with
    | true => have := Nat.eq_of_beq_eq_true hb; omega
    | false => rfl
  | n + 1, k, h => by
    show (match Nat.beq k (n + 1) with | true => true | false => memB k (dn n)) = false
    cases hb : Nat.beq k (n + 1) with
    | true => have := Nat.eq_of_beq_eq_true hb; omega
    | false => exact dn_mem n k (by omega)
abbrev DK (α : Type) := Exit → Tm → HE → Nat → Option α
abbrev DC (α : Type) := Tm → HE → Nat → DK α → Option α
noncomputable def dregion (N : Nat) (ops : Array Oper) (draw : Bool) : DC α := fun tm h n K =>
  match dstB N ops.toList && Nat.ble ops.toList.length 1024 with
  | false => none
  | true => match draw with
    | false => dreg E T fc C false ops.toList (span * (n + 1)) 0 ops.toList tm h [] fun tm h _ => fNat (n + 1) fun n => K .normal tm h n
    | true => dreg E T fc C true ops.toList (span * (n + 1)) 0 ops.toList tm h [] fun tm h rec => okB (drawF ops.toList rec.reverse) (fNat (n + 1) fun n => K .normal tm h n)
noncomputable def dseq (x y : DC α) : DC α := fun tm h n K => x tm h n fun e tm h n => match e with
  | .normal => y tm h n K
  | e => K e tm h n
noncomputable def dcond (c : Operand) (x y : DC α) : DC α := fun tm h n K => match evF (tmR tm) c with
  | .a (.s (.bool b)) => (match b with
    | true => x tm h n K
    | false => y tm h n K)
  | _ => none
noncomputable def dblock (id : Nat) (x : DC α) : DC α := fun tm h n K => x tm h n fun e tm h n => match e with
  | .exit id' => (match Nat.beq id' id with
    | true => K .normal tm h n
    | false => K (.exit id') tm h n)
  | e => K e tm h n
noncomputable def dscope (x : DC α) : DC α := fun tm h n K => x tm h n fun e tm h n => match e with
  | .goto _ => none
  | e => K e tm h n
noncomputable def dloop (fuel : Nat) (x : DC α) : DC α := Nat.rec (motive := fun _ => DC α) (fun _ _ _ _ => none) (fun _ ih tm h n K => x tm h n fun e tm h n => match e with
  | .normal => ih tm h n K
  | e => K e tm h n) fuel
noncomputable def dcode (fuel N : Nat) (c : Code) : DC α :=
  Code.rec (motive := fun _ => DC α)
    (fun tm h n K => K .normal tm h n)
    (fun _ ops draw => dregion E T fc C N ops draw)
    (fun _ _ x y => dseq x y)
    (fun c _ _ x y => dcond c x y)
    (fun id _ x => dblock id x)
    (fun _ x => dloop fuel x)
    (fun _ _ _ _ _ _ _ _ _ _ => none)
    (fun id tm h n K => K (.exit id) tm h n)
    (fun _ x => dscope x)
    (fun _ _ _ _ _ => none)
    (fun _ _ _ _ _ => none)
    (fun tm h n K => K .ret tm h n)
    (fun _ _ _ _ _ => none)
    c
variable {E T fc C}
structure Sim (H : List Row) (tm : Tm) (h : HE) (n : Nat) (σ : St) : Prop where
  tm : tmG σ.tm = tmG tm
  hp : hpG σ.h = hpE h
  ids : σ.ids = dn n
  cln : Cln H h
noncomputable def Fits (H : List Row) (d : DC α) (v : VC) : Prop := ∀ (tm : Tm) (h : HE) (n : Nat) (K : DK α) (x : α) (σ : St) (Q : Exit → St → Prop), d tm h n K = some x → Sim H tm h n σ →
  (∀ e tm h n σ, K e tm h n = some x → Sim H tm h n σ → Q e σ) → v σ Q
theorem dcode_ok {H : List Row} (hC : ∀ det f l hp n0 fp e, C f l hp n0 = some (fp, e) → ∀ K' : KK, K' fp e → vCall P det f l hp n0 K') {fuel N k : Nat} : ∀ c : Code, Fits (α := α) H (dcode E T fc C fuel N c) (vc P T N k c) := by
  intro c
  induction c with
  | skip => intro tm h n K x σ Q hq hs hK; exact hK _ _ _ _ _ hq hs
  | region id ops draw =>
    intro tm h n K x σ Q hq hs hK
    change dregion E T fc C N ops draw tm h n K = some x at hq
    show fN (hdN σ.ids) fun id => vregion P T N id ops.toList draw σ fun σ => Q .normal σ
    rw [fN_iff, hs.ids, dn_hd]
    unfold dregion at hq
    unfold vregion
    obtain ⟨tm', h', ids⟩ := σ
    obtain ⟨s1, s2, s3, s4⟩ := hs
    simp only [] at s1 s2 s3 ⊢
    subst s3
    rw [dn_mem n (n + 1) (Nat.lt_succ_self n)]
    simp only []
    split at hq
    · cases hq
    · rename_i hb
      rw [hb]
      simp only []
      cases draw with
      | false =>
        refine dreg_ok (hC false) (fun tm1 h1 rec1 tm1' h1' hk g1 g2 g3 => ?_) _ _ _ _ _ _ _ hq s1 s2 s4
        rw [fNat_eq] at hk
        exact hK _ _ _ _ _ hk ⟨g1, g2, rfl, g3⟩
      | true =>
        refine dreg_ok (hC true) (fun tm1 h1 rec1 tm1' h1' hk g1 g2 g3 => ?_) _ _ _ _ _ _ _ hq s1 s2 s4
        obtain ⟨hk1, hk⟩ := okB_some hk
        rw [fNat_eq] at hk
        exact ⟨drawF_ok hk1, hK _ _ _ _ _ hk ⟨g1, g2, rfl, g3⟩⟩
  | seq x y ihx ihy =>
    intro tm h n K z σ Q hq hs hK
    change dseq (dcode E T fc C fuel N x) (dcode E T fc C fuel N y) tm h n K = some z at hq
    refine ihx tm h n _ z σ _ hq hs fun e tm h n σ hk hs => ?_
    cases e with
    | normal => exact ihy tm h n K z σ Q hk hs hK
    | exit i => exact hK _ _ _ _ _ hk hs
    | goto i => exact hK _ _ _ _ _ hk hs
    | ret => exact hK _ _ _ _ _ hk hs
    | panic c => exact hK _ _ _ _ _ hk hs
    | outgrown => exact hK _ _ _ _ _ hk hs
  | cond c x y ihx ihy =>
    intro tm h n K z σ Q hq hs hK
    change dcond c (dcode E T fc C fuel N x) (dcode E T fc C fuel N y) tm h n K = some z at hq
    show vcCond c (vc P T N k x) (vc P T N k y) σ Q
    unfold dcond at hq
    unfold vcCond
    rw [hs.tm]
    rw [tmR_eq] at hq
    split at hq
    · rename_i b hb
      rw [hb]
      simp only []
      refine ⟨fun e => ?_, fun e => ?_⟩
      · subst e; exact ihx tm h n K z σ Q hq hs hK
      · subst e; exact ihy tm h n K z σ Q hq hs hK
    · cases hq
  | block id x ih =>
    intro tm h n K z σ Q hq hs hK
    change dblock id (dcode E T fc C fuel N x) tm h n K = some z at hq
    refine ih tm h n _ z σ _ hq hs fun e tm h n σ hk hs => ?_
    cases e with
    | exit i =>
      simp only [] at hk ⊢
      cases hb : Nat.beq i id with
      | true => rw [hb] at hk; exact hK _ _ _ _ _ hk hs
      | false => rw [hb] at hk; exact hK _ _ _ _ _ hk hs
    | normal => exact hK _ _ _ _ _ hk hs
    | goto i => exact hK _ _ _ _ _ hk hs
    | ret => exact hK _ _ _ _ _ hk hs
    | panic c => exact hK _ _ _ _ _ hk hs
    | outgrown => exact hK _ _ _ _ _ hk hs
  | loop x ih =>
    intro tm h n K z σ Q hq hs hK
    change dloop fuel (dcode E T fc C fuel N x) tm h n K = some z at hq
    have key : ∀ (m : Nat) (tm : Tm) (h : HE) (n : Nat) (σ : St), dloop m (dcode E T fc C fuel N x) tm h n K = some z → Sim H tm h n σ → lpU (vc P T N k x) Q m σ := by
      intro m
      induction m with
      | zero => intro tm h n σ hq hs; cases hq
      | succ m ihm =>
        intro tm h n σ hq hs
        refine ih tm h n _ z σ _ hq hs fun e tm h n σ hk hs => ?_
        cases e with
        | normal => exact ihm tm h n σ hk hs
        | exit i => exact hK _ _ _ _ _ hk hs
        | goto i => exact hK _ _ _ _ _ hk hs
        | ret => exact hK _ _ _ _ _ hk hs
        | panic c => exact hK _ _ _ _ _ hk hs
        | outgrown => exact hK _ _ _ _ _ hk hs
    exact Lp.unroll fuel (key fuel tm h n σ hq hs)
  | exit id => intro tm h n K x σ Q hq hs hK; exact hK _ _ _ _ _ hq hs
  | ret => intro tm h n K x σ Q hq hs hK; exact hK _ _ _ _ _ hq hs
  | scope x ih =>
    intro tm h n K z σ Q hq hs hK
    change dscope (dcode E T fc C fuel N x) tm h n K = some z at hq
    refine ih tm h n _ z σ _ hq hs fun e tm h n σ hk hs => ?_
    cases e with
    | goto i => cases hk
    | exit i => exact hK _ _ _ _ _ hk hs
    | normal => exact hK _ _ _ _ _ hk hs
    | ret => exact hK _ _ _ _ _ hk hs
    | panic c => exact hK _ _ _ _ _ hk hs
    | outgrown => exact hK _ _ _ _ _ hk hs
  | label l => intro tm h n K x σ Q hq hs hK; cases hq
  | goto l => intro tm h n K x σ Q hq hs hK; cases hq
  | rangeFunc f p x y _ _ => intro tm h n K x σ Q hq hs hK; cases hq
  | refuse s => intro tm h n K x σ Q hq hs hK; cases hq
end
end Go.Proofs.Ytffhbadeoadbkaa
