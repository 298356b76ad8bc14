/- The evaluator of code, and that it is right: statements in the order of the text, tests, loops. -/
import Derived.Test.YtffhbadeoadbkaaAbsP
import Derived.Deep.LoopGhost
namespace Go.Proofs.Ytffhbadeoadbkaa
open Go Go.RowKit

structure RelM (M : Nm → Prop) (F : Fr) (N : Nat) (tm : Tm) (h : Hl) (ρ : Nm) (a : Act) (w : World) : Prop where
  defers : a.defers = []
  tmps : a.tmps.size = N
  vals : ∀ t, VT ρ (tmG tm t) (a.tmps.getD t undef)
  conc : Conc F ρ (hpG h) w
  names : M ρ
theorem vreg_seq {M : Nm → Prop} {P : Program} {T : Tys} (hT : TysOk P T) {F : Fr} {N base : Nat} {all : List Oper} {K : Tm → Hl → List Did → Prop} {Q : Exit → Act → World → Prop} (hdst : dstB N all = true) (hM : ∀ j, j < all.length → ∀ ρ ρ', M ρ → Ext ρ ρ' → (∀ n, ¬ (base + stride * j ≤ n ∧ n < base + stride * j + stride) → ρ' n = ρ n) → M ρ')
    (hK : ∀ tm' h' rec' ρ' a' w', K tm' h' rec' → RelM M F N tm' h' ρ' a' w' → Q .normal a' w') :
    ∀ (rest : List Oper) (i : Nat) (tm : Tm) (h : Hl) (rec : List Did) (ρ : Nm) (a : Act) (w : World), vreg P T false all base i rest tm h rec K → (∀ k, rest[k]? = all[i + k]?) → RelM M F N tm h ρ a w →
      (∀ j, i ≤ j → j < all.length → ∀ n, base + stride * j ≤ n → n < base + stride * j + stride → ρ n = none) → wpOps P all.toArray Q (List.range' i rest.length) a w := by
  intro rest
  induction rest with
  | nil => intro i tm h rec ρ a w hv _ hr _; exact hK _ _ _ _ _ _ hv hr
  | cons o rest ih =>
    intro i tm h rec ρ a w hv hrest hr hfr
    have ho : all[i]? = some o := by have := hrest 0; simpa using this.symm
    have hil : i < all.length := (List.getElem?_eq_some_iff.1 ho).1
    have hrest' : ∀ k, rest[k]? = all[i + 1 + k]? := fun k => by have := hrest (k + 1); rw [List.getElem?_cons_succ] at this; rw [this]; congr 1; omega
    show wpOps P all.toArray Q (i :: List.range' (i + 1) rest.length) a w
    rw [wpOps_cons]
    unfold wpOp
    have ho' : all.toArray[i]? = some o := by simpa using ho
    simp only [ho']
    -- behind the operation
    have next : ∀ (tm1 : Tm) (x : TV) (h1 : Hl) (rec1 : List Did) (ρ' : Nm) (v : Value) (w' : World), tmG tm1 = tmG tm → vreg P T false all base (i + 1) rest (putT tm1 o.dst x) h1 rec1 K → Ext ρ ρ' → (∀ n, ¬ (base + stride * i ≤ n ∧ n < base + stride * i + stride) → ρ' n = ρ n) →
        VT ρ' x v → Conc F ρ' (hpG h1) w' → wpOps P all.toArray Q (List.range' (i + 1) rest.length) (a.put o.dst v) w' := by
      intro tm1 x h1 rec1 ρ' v w' htm hv' hx hf hxv hc
      refine ih (i + 1) _ _ _ ρ' _ w' hv' hrest' ⟨?_, ?_, fun t => ?_, hc, hM i hil ρ ρ' hr.names hx hf⟩ (fun j hj hjl n k1 k2 => ?_)
      · cases o.dst <;> exact hr.defers
      · cases hdd : o.dst <;> simp [Act.put, hr.tmps]
      · cases hdd : o.dst with
        | none => show VT ρ' (tmG tm1 t) _; rw [htm]; exact (hr.vals t).ext hx
        | some t' =>
          show VT ρ' (tmG ((t', x) :: tm1) t) _
          rw [tmG_cons]
          by_cases ht : t = t'
          · subst ht
            rw [if_pos rfl]
            have hlt : t < a.tmps.size := by rw [hr.tmps]; exact dstB_ok hdst i o t ho hdd
            have : (a.put (some t) v).tmps.getD t undef = v := by simp [Act.put, hlt]
            rw [this]; exact hxv
          · rw [if_neg ht, htm]
            have : (a.put (some t') v).tmps.getD t undef = a.tmps.getD t undef := by simp [Act.put, Array.getElem?_setIfInBounds_ne (fun e => ht e.symm)]
            rw [this]; exact (hr.vals t).ext hx
      · have : stride * i + stride ≤ stride * j := by rw [← Nat.mul_succ]; exact Nat.mul_le_mul_left _ hj
        rw [hf n (by omega)]
        exact hfr j (by omega) hjl n k1 k2
    have run : ∀ tm1 : Tm, tmG tm1 = tmG tm → vop P T false o (evF (tmG tm1)) (hpG h) (base + stride * i) (fun fp e => putK tm1 o.dst e.v fun tm => appK e h fun h => recK false (.did fp e) rec fun rec => fN (i + 1) fun i => vreg P T false all base i rest tm h rec K) →
        o.wp P a w (wpOps P all.toArray Q (List.range' (i + 1) rest.length)) Q := by
      intro tm1 htm hop
      obtain ⟨fp, E, h1, h2, h3, _⟩ := vop_sound hT hop
      refine h1 F ρ (hpG h) a w Q _ (fun x _ => ev_ok x fun t _ => by rw [htm]; exact hr.vals t) hr.conc h2 (fun n k1 k2 => hfr i (Nat.le_refl _) hil n k1 k2) (fun e ρ' v w' he hx hf hxv hc => ?_)
      have h9 := (h3 e he).2
      simp only [putK_iff, appK_iff, recK, fN_iff] at h9
      exact next tm1 e.v _ _ ρ' v w' htm h9 hx hf hxv (by rw [hpG_app]; exact hc)
    rw [vreg_cons] at hv
    unfold vregS at hv
    cases hg : o.guard with
    | none =>
      rw [hg] at hv
      have hw : Region.wanted o (yielded all.toArray a.tmps) = true := by unfold Region.wanted; rw [hg]
      rw [hw]
      simp only [if_true]
      exact .inl (run tm rfl hv)
    | some g =>
      rw [hg] at hv
      obtain ⟨g1, g2⟩ := g
      simp only [] at hv
      cases hd : dstAt all g1 with
      | none => rw [hd] at hv; exact hv.elim
      | some t =>
        rw [hd] at hv
        simp only [] at hv
        split at hv
        · rename_i b hb
          rw [fB_iff] at hv
          obtain ⟨hv1, hv2⟩ := hv
          have hval := hr.vals t
          rw [hb] at hval
          have hval : a.tmps.getD t undef = .bool b := hval
          have hget : a.tmps[t]? = some (.bool b) := by
            cases e : a.tmps[t]? with
            | none => simp [e, undef] at hval
            | some v => simp [e] at hval; rw [hval]
          have hy : yielded all.toArray a.tmps g1 = some b := by
            unfold yielded
            have : (all.toArray[g1]?).bind (·.dst) = some t := by
              unfold dstAt at hd
              cases e : all[g1]? with
              | none => rw [e] at hd; cases hd
              | some og => rw [e] at hd; simp [e, hd]
            rw [this]; simp [hget]
          have hw : Region.wanted o (yielded all.toArray a.tmps) = decide (b = g2) := by
            unfold Region.wanted
            rw [hg]
            simp only [hy]
            cases b <;> cases g2 <;> rfl
          rw [hw]
          by_cases e : b = g2
          · subst e
            simp only [decide_true, if_true]
            exact .inl (run _ (tmG_same _ _ _ hb) (hv1 rfl))
          · have e2 : b = !g2 := by cases b <;> cases g2 <;> simp_all
            replace hv2 := hv2 e2
            simp only [putK_iff, recK, fN_iff] at hv2
            rw [decide_eq_false e]
            simp only [Bool.false_eq_true, if_false]
            exact next _ _ _ _ ρ undef w (tmG_same _ _ _ (by rw [hb, e2])) hv2 (Ext.refl _) (fun _ _ => rfl) (vt_undef ρ) hr.conc
        · rename_i l hb
          simp only [putK_iff, recK, fN_iff] at hv
          have hval := hr.vals t
          rw [hb] at hval
          rw [unwanted hg hd hval]
          simp only [Bool.false_eq_true, if_false]
          exact next _ _ _ _ ρ undef w rfl hv (Ext.refl _) (fun _ _ => rfl) (vt_undef ρ) hr.conc
        · exact hv.elim
theorem region_sound {id' : Nat} {P : Program} (hm : P.follows .mixedOrders = true) {T : Tys} (hT : TysOk P T) {G : Gm} {F : Fr} {N id : Nat} {ops : Array Oper} {draw : Bool} {σ : St} {ρ : Nm} {a : Act} {w : World} {Q : Exit → Act → World → Prop} {K : St → Prop} (hr : Rel G F N σ ρ a w)
    (hv : vregion P T N id ops.toList draw σ K) (hQ : ∀ σ' ρ' a' w', K σ' → Rel G F N σ' ρ' a' w' → Q .normal a' w') : (Code.region id' ops draw).wp P Q a w := by
  cases draw with
  | true => exact region_draw hm hT hr hv hQ
  | false =>
    obtain ⟨tm, h, ids⟩ := σ
    unfold vregion at hv
    simp only [] at hv
    cases e1 : memB (id + 1) ids with
    | true => rw [e1] at hv; exact hv.elim
    | false =>
      rw [e1] at hv
      simp only [] at hv
      cases e2 : (dstB N ops.toList && Nat.ble ops.toList.length 1024) with
      | false => rw [e2] at hv; exact hv.elim
      | true =>
        rw [e2] at hv
        simp only [] at hv
        rw [Bool.and_eq_true] at e2
        have hL := Nat.le_of_ble_eq_true e2.2
        have hfresh0 : ∀ n, n / span = id + 1 → ρ n = none := fun n hn => by
          cases e : ρ n with
          | none => rfl
          | some p => exact absurd (hn ▸ hr.ids n (by rw [e]; simp)) (memB_ok e1)
        have hops : ops.toList.toArray = ops := by simp
        have key := vreg_seq (M := fun ρ => (∀ n, ρ n ≠ none → n / span ∈ (id + 1) :: ids) ∧ Ext G.ρ0 ρ) (P := P) hT (F := F) (Q := Q) e2.1 (fun j hj ρ ρ' h hx hf => ⟨fun n hn => names_step hL hj h.1 hf n hn, h.2.trans hx⟩)
          (fun tm' h' rec' ρ' a' w' hk hr' => hQ ⟨tm', h', (id + 1) :: ids⟩ ρ' a' w' hk ⟨hr'.defers, hr'.tmps, hr'.vals, hr'.conc, hr'.names.1, hr'.names.2, hr.dom⟩)
          ops.toList 0 tm h [] ρ a w hv (fun k => by simp) ⟨hr.defers, hr.tmps, hr.vals, hr.conc, fun n hn => List.mem_cons_of_mem _ (hr.ids n hn), hr.ext⟩ (fun j _ hj n h3 h4 => hfresh0 n (name_id hL hj h3 h4))
        refine wp_region ?_
        rw [hops] at key
        have : List.range ops.size = List.range' 0 ops.toList.length := by rw [List.range_eq_range']; simp
        rw [this]; exact key

/-- What one state says is no more than what another says. -/
def Wk (N k : Nat) (σ σ' : St) : Prop := ∀ G F ρ a w, Gm.k G = k → Rel G F N σ ρ a w → ∃ ρ', Rel G F N σ' ρ' a w
theorem Wk.refl (N k : Nat) (σ : St) : Wk N k σ σ := fun _ _ ρ _ _ _ h => ⟨ρ, h⟩
abbrev VC := St → (Exit → St → Prop) → Prop
def vcSeq (x y : VC) : VC := fun σ Q => x σ fun e σ => match e with
    | .normal => y σ Q
    | e => Q e σ
def vcCond (c : Operand) (x y : VC) : VC := fun σ Q => match evF (tmG σ.tm) c with
    | .a (.s (.bool b)) => Br b (x σ Q) (y σ Q)
    | _ => False
def vcBlock (id : Nat) (x : VC) : VC := fun σ Q => x σ fun e σ => match e with
    | .exit id' => match Nat.beq id' id with
      | true => Q .normal σ
      | false => Q (.exit id') σ
    | e => Q e σ
def vcScope (x : VC) : VC := fun σ Q => x σ fun e σ => match e with
    | .goto _ => False
    | e => Q e σ
/-- A loop, at most n times. -/
noncomputable def lpU (x : VC) (Q : Exit → St → Prop) (n : Nat) : St → Prop :=
  Nat.rec (motive := fun _ => St → Prop) (fun _ => False) (fun _ ih σ => x σ fun e σ => match e with
    | .normal => ih σ
    | e => Q e σ) n
inductive Lp (N k : Nat) (x : VC) (σ : St) (Q : Exit → St → Prop) : Prop
  | inv (I : Nat → St → Prop) (h0 : ∃ n σ', Wk N k σ σ' ∧ I n σ') (hs : ∀ n σ', I n σ' → x σ' fun e σ => match e with
      | .normal => ∃ m σ'', m < n ∧ Wk N k σ σ'' ∧ I m σ''
      | e => Q e σ)
  | unroll (n : Nat) (h : lpU x Q n σ)
def vcLoop (N k : Nat) (x : VC) : VC := Lp N k x
/-- By the recursor itself. -/
noncomputable def vc (P : Program) (T : Tys) (N k : Nat) (c : Code) : VC :=
  Code.rec (motive := fun _ => VC)
    (fun σ Q => Q .normal σ)
    (fun _ ops draw σ Q => fN (hdN σ.ids) fun id => vregion P T N id ops.toList draw σ fun σ => Q .normal σ)
    (fun _ _ x y => vcSeq x y)
    (fun c _ _ x y => vcCond c x y)
    (fun id _ x => vcBlock id x)
    (fun _ x => vcLoop N k x)
    (fun _ _ _ _ _ _ _ _ => False)
    (fun id σ Q => Q (.exit id) σ)
    (fun _ x => vcScope x)
    (fun _ _ _ => False)
    (fun _ _ _ => False)
    (fun σ Q => Q .ret σ)
    (fun _ _ _ => False)
    c
def lift (G : Gm) (F : Fr) (N : Nat) (Q : Exit → St → Prop) : Exit → Act → World → Prop := fun e a w => ∃ σ ρ, Rel G F N σ ρ a w ∧ Q e σ
theorem vc_sound {P : Program} (hm : P.follows .mixedOrders = true) {T : Tys} (hT : TysOk P T) {G : Gm} {F : Fr} {N k : Nat} (hGk : G.k = k) : ∀ (c : Code) (σ : St) (Q : Exit → St → Prop) (ρ : Nm) (a : Act) (w : World), vc P T N k c σ Q → Rel G F N σ ρ a w → c.wp P (lift G F N Q) a w := by
  intro c
  induction c with
  | skip => intro σ Q ρ a w h hr; exact wp_skip ⟨σ, ρ, hr, h⟩
  | region id ops draw => intro σ Q ρ a w h hr; exact region_sound hm hT hr ((fN_iff (hdN σ.ids) fun id => vregion P T N id ops.toList draw σ fun σ => Q .normal σ).1 h) fun σ' ρ' a' w' hk hr' => ⟨σ', ρ', hr', hk⟩
  | seq x y ihx ihy =>
    intro σ Q ρ a w h hr
    refine wp_seq (wp_mono (ihx σ _ ρ a w h hr) fun e a' w' hq => ?_)
    obtain ⟨σ', ρ', hr', hq⟩ := hq
    cases e with
    | normal => exact ihy σ' Q ρ' a' w' hq hr'
    | exit i => exact ⟨σ', ρ', hr', hq⟩
    | goto i => exact ⟨σ', ρ', hr', hq⟩
    | ret => exact ⟨σ', ρ', hr', hq⟩
    | panic c => exact ⟨σ', ρ', hr', hq⟩
    | outgrown => exact ⟨σ', ρ', hr', hq⟩
  | cond c x y ihx ihy =>
    intro σ Q ρ a w h hr
    change vcCond c _ _ σ Q at h
    unfold vcCond at h
    split at h
    · rename_i b hb
      have hv := ev_ok (a := a) (tm := tmG σ.tm) c (fun t _ => hr.vals t)
      rw [hb] at hv
      have hv : a.eval c = .bool b := hv
      obtain ⟨h1, h2⟩ := h
      exact wp_cond_split hv (fun e => ihx σ Q ρ a w (h1 e) hr) (fun e => ihy σ Q ρ a w (h2 e) hr)
    · exact h.elim
  | block id x ih =>
    intro σ Q ρ a w h hr
    refine wp_block (wp_mono (ih σ _ ρ a w h hr) fun e a' w' hq => ?_)
    obtain ⟨σ', ρ', hr', hq⟩ := hq
    cases e with
    | exit i =>
      simp only [] at hq
      show if i = id then lift G F N Q .normal a' w' else lift G F N Q (.exit i) a' w'
      cases hb : Nat.beq i id with
      | true => rw [hb] at hq; rw [if_pos (Nat.eq_of_beq_eq_true hb)]; exact ⟨σ', ρ', hr', hq⟩
      | false => rw [hb] at hq; rw [if_neg (Nat.ne_of_beq_eq_false hb)]; exact ⟨σ', ρ', hr', hq⟩
    | normal => exact ⟨σ', ρ', hr', hq⟩
    | goto i => exact ⟨σ', ρ', hr', hq⟩
    | ret => exact ⟨σ', ρ', hr', hq⟩
    | panic c => exact ⟨σ', ρ', hr', hq⟩
    | outgrown => exact ⟨σ', ρ', hr', hq⟩
  | loop x ih =>
    intro σ Q ρ a w h hr
    rcases h with ⟨I, ⟨n0, σ0, hw0, hI0⟩, hstep⟩ | ⟨n, h⟩
    · obtain ⟨ρ0, hr0⟩ := hw0 G F ρ a w hGk hr
      refine wp_loop_ghost (fun n a w => ∃ σ ρ, Rel G F N σ ρ a w ∧ I n σ) n0 ⟨σ0, ρ0, hr0, hI0⟩ fun n a w hI => ?_
      obtain ⟨σ1, ρ1, hr1, hI1⟩ := hI
      refine wp_mono (ih σ1 _ ρ1 a w (hstep n σ1 hI1) hr1) fun e a' w' hq => ?_
      obtain ⟨σ', ρ', hr', hq⟩ := hq
      cases e with
      | normal =>
        obtain ⟨m, σ'', hlt, hwk, hI'⟩ := hq
        obtain ⟨ρ'', hr''⟩ := hwk G F ρ' a' w' hGk hr'
        exact ⟨m, hlt, σ'', ρ'', hr'', hI'⟩
      | exit i => exact ⟨σ', ρ', hr', hq⟩
      | goto i => exact ⟨σ', ρ', hr', hq⟩
      | ret => exact ⟨σ', ρ', hr', hq⟩
      | panic c => exact ⟨σ', ρ', hr', hq⟩
      | outgrown => exact ⟨σ', ρ', hr', hq⟩
    · refine wp_loop_ghost (fun n a w => ∃ σ ρ, Rel G F N σ ρ a w ∧ lpU (vc P T N k x) Q n σ) n ⟨σ, ρ, hr, h⟩ fun n a w hI => ?_
      obtain ⟨σ1, ρ1, hr1, hI1⟩ := hI
      cases n with
      | zero => exact hI1.elim
      | succ n =>
        refine wp_mono (ih σ1 _ ρ1 a w hI1 hr1) fun e a' w' hq => ?_
        obtain ⟨σ', ρ', hr', hq⟩ := hq
        cases e with
        | normal => exact ⟨n, Nat.lt_succ_self n, σ', ρ', hr', hq⟩
        | exit i => exact ⟨σ', ρ', hr', hq⟩
        | goto i => exact ⟨σ', ρ', hr', hq⟩
        | ret => exact ⟨σ', ρ', hr', hq⟩
        | panic c => exact ⟨σ', ρ', hr', hq⟩
        | outgrown => exact ⟨σ', ρ', hr', hq⟩
  | exit id => intro σ Q ρ a w h hr; exact wp_exit ⟨σ, ρ, hr, h⟩
  | ret => intro σ Q ρ a w h hr; exact wp_ret ⟨σ, ρ, hr, h⟩
  | scope x ih =>
    intro σ Q ρ a w h hr
    refine wp_scope_straight (wp_mono (ih σ _ ρ a w h hr) fun e a' w' hq => ?_)
    obtain ⟨σ', ρ', hr', hq⟩ := hq
    cases e with
    | goto i => exact hq.elim
    | exit i => exact ⟨σ', ρ', hr', hq⟩
    | normal => exact ⟨σ', ρ', hr', hq⟩
    | ret => exact ⟨σ', ρ', hr', hq⟩
    | panic c => exact ⟨σ', ρ', hr', hq⟩
    | outgrown => exact ⟨σ', ρ', hr', hq⟩
  | label l => intro σ Q ρ a w h hr; exact h.elim
  | goto l => intro σ Q ρ a w h hr; exact h.elim
  | rangeFunc f p x y _ _ => intro σ Q ρ a w h hr; exact h.elim
  | refuse s => intro σ Q ρ a w h hr; exact h.elim
end Go.Proofs.Ytffhbadeoadbkaa
