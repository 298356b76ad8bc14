/- A statement whose order is open: every order. -/
import Derived.Test.YtffhbadeoadbkaaAbsN
namespace Go.Proofs.Ytffhbadeoadbkaa
open Go Go.RowKit
section
variable {M : Nm → Prop} {P : Program} {F : Fr} {all : List Oper} {ds : List Did} {base N : Nat} {tm0 : Nat → TV} {hp0 : Hp} {Q : Exit → Act → World → Prop}

def lst (n : Nat) (listed : Array Bool) : List Nat := (List.range n).filter fun i => listed.getD i false
structure Inv (M : Nm → Prop) (F : Fr) (all : List Oper) (ds : List Did) (base N : Nat) (tm0 : Nat → TV) (hp0 : Hp) (listed : Array Bool) (ρ : Nm) (a : Act) (w : World) : Prop where
  size : listed.size = all.length
  closed : Closed all fun i => listed.getD i false = true
  defers : a.defers = []
  tmps : a.tmps.size = N
  vals : ∀ t, VT ρ (foldU (uT all ds) (lst all.length listed) tm0 t) (a.tmps.getD t undef)
  conc : Conc F ρ (foldU (uH ds) (lst all.length listed) hp0) w
  fresh : ∀ j, j < all.length → listed.getD j false = false → ∀ n, base + stride * j ≤ n → n < base + stride * j + stride → ρ n = none
  names : M ρ
theorem pair_ok (hb : drawB all ds = true) {i j : Nat} (hij : i < j) (hj : j < all.length) : ((predsGo all []).getD j 0).testBit i = true ∨ apartB all ds i j = true := by
  unfold drawB at hb
  rw [Bool.and_eq_true] at hb
  have := List.all_eq_true.1 (List.all_eq_true.1 hb.2 j (by simpa using hj)) i (by simpa using hij)
  simpa using this
theorem before_ok {L : Nat → Prop} (hL : Closed all L) {i j : Nat} (h : ((predsGo all []).getD j 0).testBit i = true) (hj : L j) : L i :=
  preds_ok all L hL all [] ⟨[], by simp, rfl⟩ (fun k _ i hi => by simp at hi) j hj i h
/-- Two operations, one made and one not, of which neither waits for the other, are apart. -/
theorem apart_ok {listed : Array Bool} (hb : drawB all ds = true) (hc : Closed all fun i => listed.getD i false = true) {i j : Nat} (hi : i < all.length) (hj : j < all.length) (hne : i ≠ j) (hli : listed.getD i false = (decide (j < i))) (hlj : listed.getD j false = false)
    (hrdy : ∀ o, all[j]? = some o → ∀ e ∈ o.after, Region.binds .any e = true → listed.getD e.on false = true) :
    apartB all ds i j = true ∨ apartB all ds j i = true := by
  rcases Nat.lt_or_ge i j with h | h
  · -- i earlier, not made
    rcases pair_ok hb h hj with h1 | h1
    · exfalso
      -- j waits for i: all that j waits for is made
      have hL : Closed all fun k => listed.getD k false = true ∨ k = j := fun k o hk hlk e he hbe => by
        rcases hlk with hlk | rfl
        · exact .inl (hc k o hk hlk e he hbe)
        · exact .inl (hrdy o hk e he hbe)
      rcases before_ok hL h1 (.inr rfl) with h2 | h2
      · rw [hli] at h2; simp at h2; omega
      · omega
    · exact .inl h1
  · -- i later, made
    have hlt : j < i := by omega
    rcases pair_ok hb hlt hi with h1 | h1
    · exfalso
      have := before_ok hc h1 (by rw [hli]; simpa using hlt)
      rw [hlj] at this; cases this
    · exact .inr h1
theorem Oper.apart_symm' {x y : Oper} {ops : Array Oper} (h : x.apart ops y = true) : (∀ d, x.dst = some d → d ∉ y.looksAt ops) ∧ (∀ d, x.dst = some d → y.dst ≠ some d) ∧ (∀ d, y.dst = some d → d ∉ x.looksAt ops) := Oper.apart_spec h
/-- What an operation that is ready looks at is as in the order of the text. -/
theorem touchT {i : Nat} {t : Nat} (h : (uT all ds i t).isSome = true) : ∃ o, all[i]? = some o ∧ o.dst = some t := by
  unfold uT at h
  split at h
  · rename_i o d h1 h2
    split at h
    · rename_i t' h3
      split at h
      · rename_i e; subst e; exact ⟨o, h1, h3⟩
      · cases h
    · cases h
  · cases h
theorem touchH {i : Nat} {n : Nat} (h : (uH ds i n).isSome = true) : ∃ d, ds[i]? = some d ∧ n ∈ d.wr := by
  unfold uH at h
  split at h
  · rename_i d h1; exact ⟨d, h1, u_wr h⟩
  · cases h
theorem wr_ok (hch : ChainOk P all base ds tm0 hp0) {i : Nat} {d : Did} (hd : ds[i]? = some d) {n : Nat} (hn : n ∈ d.wr) : n ∈ d.rd ∨ (base + stride * i ≤ n ∧ n < base + stride * i + stride) := by
  obtain ⟨o, ho⟩ : ∃ o, all[i]? = some o := ⟨_, List.getElem?_eq_getElem (by rw [hch.1]; exact (List.getElem?_eq_some_iff.1 hd).1)⟩
  have h := hch.2 i o d ho hd
  cases d with
  | skip => cases hn
  | did fp e =>
    obtain ⟨_, _, _, h1, h2⟩ := h
    unfold Did.wr at hn
    rcases List.mem_append.1 hn with hn | hn
    · obtain ⟨p, hp, rfl⟩ := List.mem_map.1 hn
      obtain ⟨q, hq, e⟩ := h2 p hp
      exact .inl (List.mem_map.2 ⟨q, hq, e⟩)
    · obtain ⟨p, hp, rfl⟩ := List.mem_map.1 hn
      exact .inr (h1 p hp)
theorem ready_same {listed : Array Bool} (hch : ChainOk P all base ds tm0 hp0) (hb : drawB all ds = true) (hc : Closed all fun i => listed.getD i false = true) {j : Nat} {o : Oper} {d : Did} (ho : all[j]? = some o) (hd : ds[j]? = some d) (hlj : listed.getD j false = false)
    (hrdy : ∀ e ∈ o.after, Region.binds .any e = true → listed.getD e.on false = true) :
    (∀ t, t ∈ o.looksAt all.toArray → foldU (uT all ds) (lst all.length listed) tm0 t = foldU (uT all ds) (List.range j) tm0 t) ∧
    (∀ n, n ∈ d.rd → foldU (uH ds) (lst all.length listed) hp0 n = foldU (uH ds) (List.range j) hp0 n) ∧
    (∀ i, i < all.length → j < i → listed.getD i false = true → (∀ t, (uT all ds j t).isSome = true → (uT all ds i t).isSome = false) ∧ (∀ n, (uH ds j n).isSome = true → (uH ds i n).isSome = false)) := by
  have hlen := hch.1
  have hj : j < all.length := (List.getElem?_eq_some_iff.1 ho).1
  have hr : ∀ o', all[j]? = some o' → ∀ e ∈ o'.after, Region.binds .any e = true → listed.getD e.on false = true := fun o' ho' => by rw [ho] at ho'; injection ho' with ho'; subst ho'; exact hrdy
  have ap : ∀ i o' d', i < all.length → i ≠ j → listed.getD i false = decide (j < i) → all[i]? = some o' → ds[i]? = some d' →
      (∀ x, o'.dst = some x → x ∉ o.looksAt all.toArray) ∧ (∀ x, o'.dst = some x → o.dst ≠ some x) ∧ disj d'.wr d.rd = true ∧ disj d.wr d'.rd = true := by
    intro i o' d' hi hne hli ho' hd'
    rcases apart_ok hb hc hi hj hne hli hlj hr with h | h
    · unfold apartB at h
      rw [ho', ho, hd', hd] at h
      simp only [Bool.and_eq_true] at h
      obtain ⟨h1, h2, _⟩ := Oper.apart_spec h.1.1
      exact ⟨h1, h2, h.1.2, h.2⟩
    · unfold apartB at h
      rw [ho, ho', hd, hd'] at h
      simp only [Bool.and_eq_true] at h
      obtain ⟨_, h2, h3⟩ := Oper.apart_spec h.1.1
      exact ⟨h3, fun x hx hx' => h2 x hx' hx, h.2, h.1.2⟩
  refine ⟨fun t ht => ?_, fun n hn => ?_, fun i hi hji hli => ⟨fun t ht => ?_, fun n hn => ?_⟩⟩
  · rw [← range_filter_lt all.length j (by omega)]
    refine foldU_same _ t all.length _ _ tm0 fun i hi hu => ?_
    obtain ⟨o', ho', hdst⟩ := touchT hu
    by_cases hij : i = j
    · subst hij; rw [hlj]; simp
    · obtain ⟨d', hd'⟩ : ∃ d', ds[i]? = some d' := ⟨_, List.getElem?_eq_getElem (by omega)⟩
      cases hl : listed.getD i false with
      | true =>
        rcases Nat.lt_or_ge i j with h | h
        · simp [h]
        · exact absurd ht ((ap i o' d' hi hij (by rw [hl]; simp; omega) ho' hd').1 t hdst)
      | false =>
        rcases Nat.lt_or_ge i j with h | h
        · exact absurd ht ((ap i o' d' hi hij (by rw [hl]; simp; omega) ho' hd').1 t hdst)
        · simp; omega
  · rw [← range_filter_lt all.length j (by omega)]
    refine foldU_same _ n all.length _ _ hp0 fun i hi hu => ?_
    obtain ⟨d', hd', hw⟩ := touchH hu
    by_cases hij : i = j
    · subst hij; rw [hlj]; simp
    · obtain ⟨o', ho'⟩ : ∃ o', all[i]? = some o' := ⟨_, List.getElem?_eq_getElem hi⟩
      cases hl : listed.getD i false with
      | true =>
        rcases Nat.lt_or_ge i j with h | h
        · simp [h]
        · exact (disj_ok (ap i o' d' hi hij (by rw [hl]; simp; omega) ho' hd').2.2.1 hw hn).elim
      | false =>
        rcases Nat.lt_or_ge i j with h | h
        · exact (disj_ok (ap i o' d' hi hij (by rw [hl]; simp; omega) ho' hd').2.2.1 hw hn).elim
        · simp; omega
  · obtain ⟨o', ho'⟩ : ∃ o', all[i]? = some o' := ⟨_, List.getElem?_eq_getElem hi⟩
    obtain ⟨d', hd'⟩ : ∃ d', ds[i]? = some d' := ⟨_, List.getElem?_eq_getElem (by omega)⟩
    obtain ⟨_, h2, _, _⟩ := ap i o' d' hi (by omega) (by rw [hli]; simp; omega) ho' hd'
    cases e : (uT all ds i t).isSome with
    | false => rfl
    | true =>
      obtain ⟨o1, ho1, hd1⟩ := touchT e
      obtain ⟨o2, ho2, hd2⟩ := touchT ht
      rw [ho'] at ho1; injection ho1 with ho1; subst ho1
      rw [ho] at ho2; injection ho2 with ho2; subst ho2
      exact absurd hd2 (h2 t hd1)
  · obtain ⟨o', ho'⟩ : ∃ o', all[i]? = some o' := ⟨_, List.getElem?_eq_getElem hi⟩
    obtain ⟨d', hd'⟩ : ∃ d', ds[i]? = some d' := ⟨_, List.getElem?_eq_getElem (by omega)⟩
    obtain ⟨_, _, h3, h4⟩ := ap i o' d' hi (by omega) (by rw [hli]; simp; omega) ho' hd'
    cases e : (uH ds i n).isSome with
    | false => rfl
    | true =>
      obtain ⟨d1, hd1, hw1⟩ := touchH e
      obtain ⟨d2, hd2, hw2⟩ := touchH hn
      rw [hd'] at hd1; injection hd1 with hd1; subst hd1
      rw [hd] at hd2; injection hd2 with hd2; subst hd2
      exfalso
      rcases wr_ok hch hd hw2 with h5 | h5
      · exact disj_ok h3 hw1 h5
      · rcases wr_ok hch hd' hw1 with h6 | h6
        · exact disj_ok h4 hw2 h6
        · have : stride * j + stride ≤ stride * i := by rw [← Nat.mul_succ]; exact Nat.mul_le_mul_left _ hji
          omega
theorem lst_set {listed : Array Bool} {n j : Nat} (hs : listed.size = n) (hj : j < n) : lst n (listed.setIfInBounds j true) = (List.range n).filter fun i => listed.getD i false || decide (i = j) := by
  unfold lst
  apply List.filter_congr
  intro i hi
  have hi : i < n := by simpa using hi
  by_cases h : i = j
  · subst h; simp [hs, hi]
  · have : (listed.setIfInBounds j true).getD i false = listed.getD i false := getD_set_ne false (fun e => h e.symm)
    rw [this]; simp [h]
theorem any_step (hM : ∀ j, j < all.length → ∀ ρ ρ', M ρ → Ext ρ ρ' → (∀ n, ¬ (base + stride * j ≤ n ∧ n < base + stride * j + stride) → ρ' n = ρ n) → M ρ') (hch : ChainOk P all base ds tm0 hp0) (hb : drawB all ds = true) (hdst : ∀ (i : Nat) o d, all[i]? = some o → o.dst = some d → d < N) {listed : Array Bool} {ρ : Nm} {a : Act} {w : World} (h : Inv M F all ds base N tm0 hp0 listed ρ a w) {j : Nat}
    (hj : j ∈ Region.ready .any all.toArray listed) (K : Act → World → Prop) (hK : ∀ ρ' a' w', Inv M F all ds base N tm0 hp0 (listed.setIfInBounds j true) ρ' a' w' → K a' w') : wpOp P all.toArray Q j K a w := by
  obtain ⟨hl, o, ho, hrdy⟩ := mem_ready.1 hj
  have ho' : all[j]? = some o := by simpa using ho
  have hjl : j < all.length := (List.getElem?_eq_some_iff.1 ho').1
  have hlj : listed.getD j false = false := by
    have hs : j < listed.size := by rw [h.size]; exact hjl
    simp [hs] at hl ⊢; exact hl
  obtain ⟨d, hd⟩ : ∃ d, ds[j]? = some d := ⟨_, List.getElem?_eq_getElem (by rw [← hch.1]; exact hjl)⟩
  obtain ⟨s1, s2, s3⟩ := ready_same (tm0 := tm0) (hp0 := hp0) hch hb h.closed ho' hd hlj hrdy
  have hok := hch.2 j o d ho' hd
  -- what is left behind the operation
  have next : ∀ (ρ' : Nm) (v : Value) (w' : World), Ext ρ ρ' → (∀ n, ¬ (base + stride * j ≤ n ∧ n < base + stride * j + stride) → ρ' n = ρ n) → VT ρ' d.v v → Conc F ρ' (ap d.u (foldU (uH ds) (lst all.length listed) hp0)) w' → K (a.put o.dst v) w' := by
    intro ρ' v w' hx hfr hv hcc
    refine hK ρ' _ w' ⟨by simp [h.size], fun i o' hi hli e he hbe => ?_, ?_, ?_, fun t => ?_, ?_, fun i hi hli n h1 h2 => ?_, hM j hjl ρ ρ' h.names hx hfr⟩
    · by_cases hij : i = j
      · subst hij
        rw [ho'] at hi; injection hi with hi; subst hi
        exact getD_set_true (hrdy e he hbe)
      · have hli' : (listed.setIfInBounds j true).getD i false = true := hli
        rw [getD_set_ne false (fun e => hij e.symm)] at hli'
        exact getD_set_true (h.closed i o' hi hli' e he hbe)
    · cases o.dst <;> exact h.defers
    · cases hdd : o.dst <;> simp [Act.put, h.tmps]
    · rw [lst_set h.size hjl, foldU_insert _ t all.length j _ tm0 hjl hlj (fun i hi hji hli hu => (s3 i hi hji hli).1 t hu)]
      have hu : uT all ds j t = if o.dst = some t then some d.v else none := by
        unfold uT; rw [ho', hd]
        simp only []
        cases hdd : o.dst with
        | none => simp
        | some t' => simp only [Option.some.injEq]; by_cases e : t = t' <;> simp [e]; intro e'; exact absurd e'.symm e
      unfold ap
      rw [hu]
      by_cases hdt : o.dst = some t
      · rw [if_pos hdt]
        have hlt : t < a.tmps.size := by rw [h.tmps]; exact hdst j o t ho' hdt
        simp only [Act.put, hdt]
        have : (a.tmps.setIfInBounds t v).getD t undef = v := by simp [hlt]
        rw [this]; exact hv
      · rw [if_neg hdt]
        have : (a.put o.dst v).tmps.getD t undef = a.tmps.getD t undef := by
          cases hdd : o.dst with
          | none => rfl
          | some t' =>
            have hne : t' ≠ t := by rintro rfl; exact hdt hdd
            simp [Act.put, Array.getElem?_setIfInBounds_ne hne]
        rw [this]
        exact (h.vals t).ext hx
    · have : foldU (uH ds) (lst all.length (listed.setIfInBounds j true)) hp0 = ap d.u (foldU (uH ds) (lst all.length listed) hp0) := by
        funext n
        rw [lst_set h.size hjl, foldU_insert _ n all.length j _ hp0 hjl hlj (fun i hi hji hli hu => (s3 i hi hji hli).2 n hu)]
        have : uH ds j = d.u := by funext n; unfold uH; rw [hd]
        unfold lst
        rw [this]
      rw [this]; exact hcc
    · have hij : i ≠ j := by
        rintro rfl
        have hs : i < listed.size := by rw [h.size]; exact hjl
        simp [hs] at hli
      rw [getD_set_ne false (fun e => hij e.symm)] at hli
      have hnr : ¬ (base + stride * j ≤ n ∧ n < base + stride * j + stride) := by
        rintro ⟨h3, h4⟩
        rcases Nat.lt_or_ge i j with hlt | hge
        · have : stride * i + stride ≤ stride * j := by rw [← Nat.mul_succ]; exact Nat.mul_le_mul_left _ hlt
          omega
        · have : stride * j + stride ≤ stride * i := by rw [← Nat.mul_succ]; exact Nat.mul_le_mul_left _ (by omega)
          omega
      rw [hfr n hnr]
      exact h.fresh i hi hli n h1 h2
  -- the guard's value in the frame
  have grd : ∀ g t b, o.guard = some g → dstAt all g.1 = some t → foldU (uT all ds) (List.range j) tm0 t = .a (.s (.bool b)) → Region.wanted o (yielded all.toArray a.tmps) = decide (b = g.2) := by
    intro g t b hg hdt hv
    have hlook : t ∈ o.looksAt all.toArray := by
      unfold Oper.looksAt
      refine List.mem_append_right _ ?_
      rw [hg]
      unfold dstAt at hdt
      cases e : all[g.1]? with
      | none => rw [e] at hdt; cases hdt
      | some og => rw [e] at hdt; simp [e, hdt]
    have hval := h.vals t
    rw [s1 t hlook, hv] at hval
    have hval : a.tmps.getD t undef = .bool b := hval
    have hget : a.tmps[t]? = some (.bool b) := by
      cases e : a.tmps[t]? with
      | none => simp [e, undef] at hval
      | some v => simp [e] at hval; rw [hval]
    have hy : yielded all.toArray a.tmps g.1 = some b := by
      unfold yielded
      have : (all.toArray[g.1]?).bind (·.dst) = some t := by
        unfold dstAt at hdt
        cases e : all[g.1]? with
        | none => rw [e] at hdt; cases hdt
        | some og => rw [e] at hdt; simp [e, hdt]
      rw [this]
      simp [hget]
    unfold Region.wanted
    rw [hg]
    simp only [hy]
    cases b <;> cases g.2 <;> rfl
  unfold wpOp
  simp only [ho]
  cases d with
  | skip =>
    have hnw : Region.wanted o (yielded all.toArray a.tmps) = false := by
      obtain ⟨g, t, hg, hdt, ⟨b, hv, hne⟩ | ⟨l, hv⟩⟩ := hok
      · rw [grd g t b hg hdt hv, decide_eq_false hne]
      · have hlook : t ∈ o.looksAt all.toArray := by
          unfold Oper.looksAt
          refine List.mem_append_right _ ?_
          rw [hg]
          have hdt' := hdt
          unfold dstAt at hdt'
          cases e : all[g.1]? with
          | none => rw [e] at hdt'; cases hdt'
          | some og => rw [e] at hdt'; simp [e, hdt']
        have hval := h.vals t
        rw [s1 t hlook, hv] at hval
        exact unwanted hg hdt hval
    rw [hnw]
    simp only [Bool.false_eq_true, if_false]
    refine next ρ undef w (Ext.refl _) (fun _ _ => rfl) (vt_undef ρ) ?_
    have : ap Did.skip.u (foldU (uH ds) (lst all.length listed) hp0) = foldU (uH ds) (lst all.length listed) hp0 := by funext n; rfl
    rw [this]; exact h.conc
  | did fp e =>
    obtain ⟨hg, hsem, hfp, hef⟩ := hok
    have hw : Region.wanted o (yielded all.toArray a.tmps) = true := by
      cases e1 : o.guard with
      | none => unfold Region.wanted; rw [e1]
      | some g =>
        obtain ⟨t, hdt, hv⟩ := hg g e1
        rw [grd g t g.2 e1 hdt hv]; simp
    rw [hw]
    simp only [if_true]
    left
    refine hsem F ρ (foldU (uH ds) (lst all.length listed) hp0) a w Q K (fun x hx => ev_ok x fun t ht => ?_) h.conc (fun p hp => ?_) (fun n h1 h2 => h.fresh j hjl hlj n h1 h2) (fun e' ρ' v w' he hx hfr hv hcc => ?_)
    · have hlook : t ∈ o.looksAt all.toArray := by
        unfold Oper.looksAt
        refine List.mem_append_left _ (List.mem_filterMap.2 ⟨.tmp t, by subst ht; simpa using hx, rfl⟩)
      rw [← s1 t hlook]; exact h.vals t
    · rw [s2 p.1 (List.mem_map.2 ⟨p, hp, rfl⟩)]; exact hfp p hp
    · subst he
      exact next ρ' v w' hx hfr hv (by rw [ap_app]; exact hcc)
theorem any_go (hM : ∀ j, j < all.length → ∀ ρ ρ', M ρ → Ext ρ ρ' → (∀ n, ¬ (base + stride * j ≤ n ∧ n < base + stride * j + stride) → ρ' n = ρ n) → M ρ') (hch : ChainOk P all base ds tm0 hp0) (hb : drawB all ds = true) (hdst : ∀ (i : Nat) o d, all[i]? = some o → o.dst = some d → d < N)
    (hQ : ∀ ρ a w, a.defers = [] → a.tmps.size = N → (∀ t, VT ρ (foldU (uT all ds) (List.range all.length) tm0 t) (a.tmps.getD t undef)) → Conc F ρ (foldU (uH ds) (List.range all.length) hp0) w → M ρ → Q .normal a w) :
    ∀ (fuel : Nat) (listed : Array Bool) (ρ : Nm) (a : Act) (w : World), Inv M F all ds base N tm0 hp0 listed ρ a w → ((List.range all.length).filter fun i => !listed.getD i false).length ≤ fuel → wpAny P .any all.toArray Q fuel listed a w := by
  have full : ∀ (listed : Array Bool) (ρ : Nm) (a : Act) (w : World), Inv M F all ds base N tm0 hp0 listed ρ a w → Region.ready .any all.toArray listed = [] → Q .normal a w := by
    intro listed ρ a w h hr
    have hall : ∀ n, ∀ i, i < n → i < all.length → listed.getD i false = true := by
      intro n
      induction n with
      | zero => intro i hi; omega
      | succ n ih =>
        intro i hi hil
        cases hl : listed.getD i false with
        | true => rfl
        | false =>
          exfalso
          obtain ⟨o, ho⟩ : ∃ o, all[i]? = some o := ⟨_, List.getElem?_eq_getElem hil⟩
          have hE := (Bool.and_eq_true _ _ ▸ hb : edgesB all 0 = true ∧ _).1
          have : i ∈ Region.ready .any all.toArray listed := by
            refine mem_ready.2 ⟨?_, o, by simpa using ho, fun e he hbe => ?_⟩
            · have hs : i < listed.size := by rw [h.size]; exact hil
              simp [hs] at hl ⊢; exact hl
            · have := edges_ok all 0 hE i o ho e he hbe
              exact ih e.on (by omega) (by omega)
          rw [hr] at this; cases this
    have hlst : lst all.length listed = List.range all.length := by
      unfold lst
      exact List.filter_eq_self.2 fun i hi => hall (i + 1) i (by omega) (by simpa using hi)
    refine hQ ρ a w h.defers h.tmps (fun t => ?_) ?_ h.names
    · rw [← hlst]; exact h.vals t
    · rw [← hlst]; exact h.conc
  intro fuel
  induction fuel with
  | zero =>
    intro listed ρ a w h hf
    have hnil : Region.ready .any all.toArray listed = [] := by
      apply List.eq_nil_iff_forall_not_mem.2
      intro j hj
      obtain ⟨hl, o, ho, _⟩ := mem_ready.1 hj
      have ho' : all[j]? = some o := by simpa using ho
      have hjl : j < all.length := (List.getElem?_eq_some_iff.1 ho').1
      have hs : j < listed.size := by rw [h.size]; exact hjl
      have : j ∈ (List.range all.length).filter fun i => !listed.getD i false := by
        refine List.mem_filter.2 ⟨by simpa using hjl, ?_⟩
        simp [hs] at hl ⊢; exact hl
      rw [List.eq_nil_of_length_eq_zero (Nat.le_zero.1 hf)] at this
      cases this
    exact ⟨hnil, full listed ρ a w h hnil⟩
  | succ fuel ih =>
    intro listed ρ a w h hf
    refine ⟨fun hr => full listed ρ a w h hr, fun j hj => ?_⟩
    refine any_step hM hch hb hdst h hj _ fun ρ' a' w' h' => ih _ ρ' a' w' h' ?_
    obtain ⟨hl, o, ho, _⟩ := mem_ready.1 hj
    have ho' : all[j]? = some o := by simpa using ho
    have hjl : j < all.length := (List.getElem?_eq_some_iff.1 ho').1
    have hs : j < listed.size := by rw [h.size]; exact hjl
    have hlj : listed.getD j false = false := by simp [hs] at hl ⊢; exact hl
    have hlt : ((List.range all.length).filter fun i => !(listed.setIfInBounds j true).getD i false).length < ((List.range all.length).filter fun i => !listed.getD i false).length := by
      have e : (List.range all.length).filter (fun i => !(listed.setIfInBounds j true).getD i false) = ((List.range all.length).filter fun i => !listed.getD i false).filter fun i => decide (i ≠ j) := by
        rw [List.filter_filter]
        apply List.filter_congr
        intro i hi
        by_cases hij : i = j
        · subst hij; simp [hs]
        · rw [getD_set_ne false (fun e => hij e.symm)]; simp [hij]
      rw [e]
      exact List.length_filter_lt_length_iff_exists.2 ⟨j, List.mem_filter.2 ⟨by simpa using hjl, by rw [hlj]; rfl⟩, by simp⟩
    omega
end
end Go.Proofs.Ytffhbadeoadbkaa
