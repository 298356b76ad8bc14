/- The evaluator of one operation is right. -/
import Derived.Test.YtffhbadeoadbkaaAbsL
import Derived.Laws.Cover3
namespace Go.Proofs.Ytffhbadeoadbkaa
open Go Go.RowKit

def Snd (P : Program) (det : Bool) (o : Oper) (tv : Operand → TV) (hp : Hp) (n0 : Nat) (K : KK) : Prop :=
  ∃ fp E, SemOp P o tv n0 fp E ∧ (∀ p ∈ fp, hp p.1 = some p.2) ∧ (∀ e, E e → EfOk n0 fp e ∧ K fp e) ∧ (det = true → ∃ e, E = (· = e))
variable {P : Program} {det : Bool} {o : Oper} {tv : Operand → TV} {hp : Hp} {n0 : Nat} {K : KK}
theorem snd1 {fp : List (Nat × Row)} {e : Ef} (h : SemOp P o tv n0 fp (· = e)) (hf : ∀ p ∈ fp, hp p.1 = some p.2) (hok : EfOk n0 fp e) (hk : K fp e) : Snd P det o tv hp n0 K :=
  ⟨fp, _, h, hf, fun _ h => h ▸ ⟨hok, hk⟩, fun _ => ⟨e, rfl⟩⟩
theorem efok0 (v : TV) (fp : List (Nat × Row)) : EfOk n0 fp ⟨v, [], []⟩ := ⟨fun _ h => (by cases h), fun _ h => (by cases h)⟩
theorem efok1 (v : TV) (fp : List (Nat × Row)) (r : Row) : EfOk n0 fp ⟨v, [], [(n0, r)]⟩ := ⟨fun p h => (by simp at h; subst h; simp [stride]), fun _ h => (by cases h)⟩
theorem efokU (v : TV) (fp : List (Nat × Row)) (i : Nat) (r : Row) (x : Option Row) (nw : List (Nat × Row)) (hn : ∀ p ∈ nw, n0 ≤ p.1 ∧ p.1 < n0 + stride) : EfOk n0 ((i, r) :: fp) ⟨v, [(i, x)], nw⟩ :=
  ⟨hn, fun p h => by simp at h; subst h; exact ⟨(i, r), by simp, rfl⟩⟩
theorem nof {hp : Hp} : ∀ p ∈ ([] : List (Nat × Row)), hp p.1 = some p.2 := fun _ h => by cases h
theorem onef {hp : Hp} {i : Nat} {r : Row} (h : hp i = some r) : ∀ p ∈ [(i, r)], hp p.1 = some p.2 := fun p hp => by simp at hp; subst hp; exact h
theorem consf {hp : Hp} {i : Nat} {r : Row} {fp : List (Nat × Row)} (h : hp i = some r) (h2 : ∀ p ∈ fp, hp p.1 = some p.2) : ∀ p ∈ (i, r) :: fp, hp p.1 = some p.2 := fun p hp => by
  rcases List.mem_cons.1 hp with rfl | hp
  · exact h
  · exact h2 p hp

theorem vInt_sound {op : BinOp} {t t2 : TypeId} {x y : Operand} {k k' : IntKind} {m n : Int} (ho : o.op = .binOp op t x y t2) (hx : tv x = .a (.s (.int k m))) (hy : tv y = .a (.s (.int k' n))) (h : vInt op k m k' n fun s => K [] (vs1 s)) : Snd P det o tv hp n0 K := by
  cases op <;> simp only [vInt] at h
  case quo => obtain ⟨rfl, h1, z, rfl, h2⟩ := h; exact snd1 (sem_div t x y t2 _ m n ho hx hy h1) nof (efok0 _ _) h2
  case rem => obtain ⟨rfl, h1, z, rfl, h2⟩ := h; exact snd1 (sem_rem t x y t2 _ m n ho hx hy h1) nof (efok0 _ _) h2
  case shl => obtain ⟨h1, z, rfl, h2⟩ := h; exact snd1 (sem_shl t x y t2 _ _ m n ho hx hy h1) nof (efok0 _ _) h2
  case shr => obtain ⟨h1, z, rfl, h2⟩ := h; exact snd1 (sem_shr t x y t2 _ _ m n ho hx hy h1) nof (efok0 _ _) h2
  all_goals (obtain ⟨rfl, z, rfl, h2⟩ := h; exact snd1 (sem_ibin _ t x y t2 _ m n _ ho hx hy rfl) nof (efok0 _ _) h2)
theorem vStr_sound {op : BinOp} {t t2 : TypeId} {x y : Operand} {m n : ByteArray} (ho : o.op = .binOp op t x y t2) (hx : tv x = .a (.s (.str m))) (hy : tv y = .a (.s (.str n))) (h : vStr op m n fun s => K [] (vs1 s)) : Snd P det o tv hp n0 K := by
  cases op <;> simp only [vStr] at h
  case add => obtain ⟨h1, z, rfl, h2⟩ := h; exact snd1 (sem_sadd t x y t2 m n ho hx hy h1) nof (efok0 _ _) h2
  all_goals (obtain ⟨z, rfl, h2⟩ := h; exact snd1 (sem_sbin _ t x y t2 m n _ ho hx hy rfl) nof (efok0 _ _) h2)
theorem sem_eqAgg (op : BinOp) (t : TypeId) (x y : Operand) (t2 : TypeId) (l l' : List SV) (b c : Bool) (ho : o.op = .binOp op t x y t2) (hx : tv x = .a (.agg l)) (hy : tv y = .a (.agg l')) (he : EqOk P t l l' b) (hc : (op = .eql ∧ c = b) ∨ (op = .neq ∧ c = !b)) :
    SemOp P o tv n0 [] (· = ⟨.a (.s (.bool c)), [], []⟩) :=
  SemOp.read fun F ρ hp a w h1 _ _ => by
    obtain ⟨cs, h2, h3⟩ := eval2a h1 (by rw [ho]; simp [Op.operands]) hx
    obtain ⟨cs', h4, h5⟩ := eval2a h1 (by rw [ho]; simp [Op.operands]) hy
    obtain ⟨e1, e2, e3, e4⟩ := he ρ w cs cs' x y h3 h5
    refine ⟨.bool c, rfl, ?_⟩
    unfold execOp; rw [ho]
    rcases hc with ⟨rfl, rfl⟩ | ⟨rfl, rfl⟩
    · simp only [h2, h4, Sem.run_bind, e1, Result.andThen_ok, e3]; rfl
    · simp only [h2, h4, Sem.run_bind, e2, Result.andThen_ok, e4]; rfl
theorem run_eqlNil (w : World) (t e : TypeId) (a : Option Addr) (l c : Nat) (h : P.underlying t = some (.slice e)) : (binOp .eql t (.slice a l c) (.slice none 0 0)).run P w = .ok (.bool a.isNone) w := by
  simp only [binOp]
  simp [run_equal_slice_nil w t e a l c h]
theorem sem_slNil {T : Tys} (hT : TysOk P T) (op : BinOp) (t e : TypeId) (x y : Operand) (t2 : TypeId) (yt : Ty) (i k n : Nat) (neg : Bool) (ho : o.op = .binOp op t x y t2) (hx : tv x = .a (.s (.sl i k n))) (hy : tv y = .a (.s .nilsl)) (hyt : T t = some yt) (hk : yt.kind = .slice e)
    (hop : (op = .eql ∧ neg = false) ∨ (op = .neq ∧ neg = true)) : SemOp P o tv n0 [] (fun f => ∃ b : Bool, (b = true → n = 0) ∧ f = ⟨.a (.s (.bool (Bool.xor neg b))), [], []⟩) := by
  intro F ρ hp a w Q K h1 h2 h3 _ hK
  obtain ⟨A, c, e1, hc, h4⟩ := eval2 h1 (by rw [ho]; simp [Op.operands]) hx
  have e2 : a.eval y = .slice none 0 0 := eval2 h1 (by rw [ho]; simp [Op.operands]) hy
  have hu := (hT t yt hyt).sl hk
  have hz : A.isNone = true → n = 0 := fun hA => by
    rcases h4 with ⟨L, _, ⟨rfl, _⟩ | h5⟩ | ⟨_, h5⟩
    · cases hA
    · omega
    · omega
  have hr : (execOp a.eval o).run P w = .ok (.value (.bool (Bool.xor neg A.isNone))) w := by
    unfold execOp; rw [ho]
    rcases hop with ⟨rfl, rfl⟩ | ⟨rfl, rfl⟩
    · simp only [e1, e2, eqGuard_at_slice, run_eqlNil w t e A n c hu, Sem.run_bind, Sem.run_pure, Result.andThen_ok, Bool.false_xor]
    · simp only [e1, e2, eqGuard_at_slice, run_neq_slice_nil w t e A n c hu, Sem.run_bind, Sem.run_pure, Result.andThen_ok, Bool.true_xor]
  unfold Oper.wp
  rw [hr, Oper.upon_value]
  exact hK _ ρ _ w ⟨_, hz, rfl⟩ (Ext.refl _) (fun _ _ => rfl) rfl (by rw [Ef.app_none]; exact h2)
theorem sem_nilNil {T : Tys} (hT : TysOk P T) (op : BinOp) (t e : TypeId) (x y : Operand) (t2 : TypeId) (yt : Ty) (neg : Bool) (ho : o.op = .binOp op t x y t2) (hx : tv x = .a (.s .nilsl)) (hy : tv y = .a (.s .nilsl)) (hyt : T t = some yt) (hk : yt.kind = .slice e)
    (hop : (op = .eql ∧ neg = false) ∨ (op = .neq ∧ neg = true)) : SemOp P o tv n0 [] (· = ⟨.a (.s (.bool (!neg))), [], []⟩) :=
  SemOp.read fun F ρ hp a w h1 _ _ => by
    have e1 : a.eval x = .slice none 0 0 := eval2 h1 (by rw [ho]; simp [Op.operands]) hx
    have e2 : a.eval y = .slice none 0 0 := eval2 h1 (by rw [ho]; simp [Op.operands]) hy
    have hu := (hT t yt hyt).sl hk
    refine ⟨_, rfl, ?_⟩
    unfold execOp; rw [ho]
    rcases hop with ⟨rfl, rfl⟩ | ⟨rfl, rfl⟩
    · simp only [e1, e2, eqGuard_at_slice, run_eqlNil w t e none 0 0 hu, Sem.run_bind, Sem.run_pure, Result.andThen_ok]
      rfl
    · simp only [e1, e2, eqGuard_at_slice, run_neq_slice_nil w t e none 0 0 hu, Sem.run_bind, Sem.run_pure, Result.andThen_ok]
      rfl
theorem ns_snd {T : Tys} (hT : TysOk P T) {op : BinOp} {t e : TypeId} {x y : Operand} {t2 : TypeId} {yt : Ty} {i k n : Nat} {neg : Bool} {J : Bool → Prop} (ho : o.op = .binOp op t x y t2) (hx : tv x = .a (.s (.sl i k n))) (hy : tv y = .a (.s .nilsl)) (hyt : T t = some yt) (hk : yt.kind = .slice e)
    (hop : (op = .eql ∧ neg = false) ∨ (op = .neq ∧ neg = true)) (h : Ns det n J) (hJ : ∀ b, J b → K [] (vs1 (.bool (Bool.xor neg b)))) : Snd P det o tv hp n0 K := by
  rcases h with ⟨hd, h⟩ | ⟨hn, h⟩
  · refine ⟨[], _, sem_slNil hT op t e x y t2 yt i k n neg ho hx hy hyt hk hop, nof, ?_, fun e => by rw [hd] at e; cases e⟩
    rintro f ⟨b, hb, rfl⟩
    exact ⟨efok0 _ _, hJ b (h b hb)⟩
  · refine ⟨[], (· = ⟨.a (.s (.bool (Bool.xor neg false))), [], []⟩), ?_, nof, ?_, fun _ => ⟨_, rfl⟩⟩
    · intro F ρ hp a w Q K' h1 h2 h3 h4 hK
      refine sem_slNil hT op t e x y t2 yt i k n neg ho hx hy hyt hk hop F ρ hp a w Q K' h1 h2 h3 h4 fun f ρ' v w' hf => ?_
      obtain ⟨b, hb, rfl⟩ := hf
      cases b with
      | false => exact hK _ ρ' v w' rfl
      | true => have := hb rfl; omega
    · rintro f rfl; exact ⟨efok0 _ _, hJ false h⟩
theorem vBin_sound {T : Tys} (hT : TysOk P T) {op : BinOp} {t t2 : TypeId} {x y : Operand} (ho : o.op = .binOp op t x y t2) (h : vBin P T det op t (tv x) (tv y) fun s => K [] (vs1 s)) : Snd P det o tv hp n0 K := by
  unfold vBin at h
  split at h
  · rename_i k m k' n hx hy; exact vInt_sound ho hx hy h
  · rename_i m n hx hy; exact vStr_sound ho hx hy h
  · rename_i m n hx hy
    split at h
    · rename_i ty hty
      obtain ⟨hk, h⟩ := h
      have hu := (hT t ty hty).bool hk
      split at h
      · obtain ⟨z, rfl, h⟩ := h; exact snd1 (sem_bbin .eql t x y t2 m n _ ho hx hy hu rfl) nof (efok0 _ _) h
      · obtain ⟨z, rfl, h⟩ := h; exact snd1 (sem_bbin .neq t x y t2 m n _ ho hx hy hu rfl) nof (efok0 _ _) h
      · exact h.elim
    · exact h.elim
  · rename_i l l' hx hy
    split at h
    · obtain ⟨b, h1, h2⟩ := h; exact snd1 (sem_eqAgg _ t x y t2 l l' b _ ho hx hy h1 (.inl ⟨rfl, rfl⟩)) nof (efok0 _ _) h2
    · obtain ⟨b, h1, h2⟩ := h; exact snd1 (sem_eqAgg _ t x y t2 l l' b _ ho hx hy h1 (.inr ⟨rfl, rfl⟩)) nof (efok0 _ _) h2
    · exact h.elim
  · rename_i i k n hx hy
    split at h
    · rename_i yt hyt
      split at h
      · rename_i e hk
        split at h
        · exact ns_snd (neg := false) hT ho hx hy hyt hk (.inl ⟨rfl, rfl⟩) h fun b hb => by rw [Bool.false_xor]; exact hb
        · exact ns_snd (neg := true) hT ho hx hy hyt hk (.inr ⟨rfl, rfl⟩) h fun b hb => by obtain ⟨z, rfl, hb⟩ := hb; rw [Bool.true_xor]; exact hb
        · exact h.elim
      · exact h.elim
    · exact h.elim
  · rename_i hx hy
    split at h
    · rename_i yt hyt
      split at h
      · rename_i e hk
        split at h
        · exact snd1 (sem_nilNil (neg := false) hT _ t e x y t2 yt ho hx hy hyt hk (.inl ⟨rfl, rfl⟩)) nof (efok0 _ _) h
        · exact snd1 (sem_nilNil (neg := true) hT _ t e x y t2 yt ho hx hy hyt hk (.inr ⟨rfl, rfl⟩)) nof (efok0 _ _) h
        · exact h.elim
      · exact h.elim
    · exact h.elim
  · exact h.elim
theorem vUn_sound {op : UnOp} {t : TypeId} {x : Operand} (ho : o.op = .unOp op t x) (h : vUn op (tv x) fun s => K [] (vs1 s)) : Snd P det o tv hp n0 K := by
  unfold vUn at h
  split at h
  · rename_i b hx; obtain ⟨z, rfl, h⟩ := h; exact snd1 (sem_not t x b ho hx) nof (efok0 _ _) h
  · rename_i k n hx; obtain ⟨z, rfl, h⟩ := h; exact snd1 (sem_iun _ t x k n _ ho hx rfl) nof (efok0 _ _) h
  · rename_i k n hx; obtain ⟨z, rfl, h⟩ := h; exact snd1 (sem_iun _ t x k n _ ho hx rfl) nof (efok0 _ _) h
  · exact h.elim
theorem nwN_names (m : List Em) (k n0 : Nat) (l : List Row) (j : Nat) (p : Nat × Row) (h : p ∈ nwN m k n0 j l) : n0 + j ≤ p.1 ∧ p.1 < n0 + j + l.length := by
  induction l generalizing j with
  | nil => cases h
  | cons r l ih =>
    unfold nwN at h
    rcases List.mem_cons.1 h with rfl | h
    · simp
    · have := ih (j + 1) h; simp; omega
theorem upN_names (m : List Em) (k n0 : Nat) (l : List (Nat × Option Row)) (p : Nat × Option Row) (h : p ∈ upN m k n0 l) : ∃ q ∈ l, p.1 = (renN m k n0 q.1).n := by
  induction l with
  | nil => cases h
  | cons r l ih =>
    unfold upN at h
    rcases List.mem_cons.1 h with rfl | h
    · exact ⟨r, by simp, rfl⟩
    · obtain ⟨q, h1, h2⟩ := ih h; exact ⟨q, by simp [h1], h2⟩
theorem vCall_sound {c : Call} {fo : Operand} {f : FuncId} {cap : List (Nat × Nat)} {l : List AV} (ho : o.op = .call c) (hc0 : c.callee = .value fo) (hfo : tv fo = .a (.s (.fn (.func f) cap))) (hl : avs tv c.args.toList = some l)
    (h : vCall P det f (l ++ capA cap) hp n0 K) : Snd P det o tv hp n0 K := by
  obtain ⟨args, H, m, fp, Post, h1, h2, h3, h4, h5, h6, h7⟩ := h
  refine ⟨fp, _, sem_call c fo f cap l args m H Post fp ho hc0 hfo hl h2 h1 (rowsM_len h4) (fun hp hf => rowsM_at h4 hp hf) (fun R hR => (h5 R hR).1), fpOk_mem h3, ?_, fun hd => ?_⟩
  · rintro e ⟨R, hR, rfl⟩
    refine ⟨⟨fun p hp => ?_, fun p hp => ?_⟩, by obtain ⟨e, h8, h9⟩ := h7 R hR; rw [h8]; exact h9⟩
    · have := nwN_names m H.length n0 R.nw 0 p hp
      have := (h5 R hR).1
      omega
    · obtain ⟨q, q1, q2⟩ := upN_names m H.length n0 R.up p hp
      have hlt := (h5 R hR).2 q q1
      rw [← rowsM_len h4] at hlt
      have e := renN_lt (k := H.length) (n0 := n0) (List.getElem?_eq_getElem hlt)
      rw [e] at q2
      obtain ⟨y, y1, y2⟩ := rowsM_names h4 _ (List.getElem_mem hlt)
      exact ⟨y, y1, y2.trans q2.symm⟩
  · obtain ⟨R, hR⟩ := h6 hd
    subst hR
    exact ⟨R.ef m H.length n0, by funext e; simp⟩
theorem vLen_sound {T : Tys} (hT : TysOk P T) {c : Call} {t : TypeId} {x : Operand} (ho : o.op = .call c) (hc0 : c.callee = .builtin .len) (hca : c.args = #[x]) (hct : c.argTypes = #[t]) (h : vLen T t (tv x) fun s => K [] (vs1 s)) : Snd P det o tv hp n0 K := by
  unfold vLen at h
  split at h
  · rename_i i k n hx
    split at h
    · rename_i y hy
      split at h
      · rename_i e hk; exact snd1 (sem_len hT c t e x y i k n ho hc0 hca hct hx hy hk) nof (efok0 _ _) h
      · exact h.elim
    · exact h.elim
  · rename_i hx
    split at h
    · rename_i y hy
      split at h
      · rename_i e hk; exact snd1 (sem_lenNil hT c t e x y ho hc0 hca hct hx hy hk) nof (efok0 _ _) h
      · exact h.elim
    · exact h.elim
  · rename_i s hx
    split at h
    · rename_i y hy
      split at h
      · rename_i hk; exact snd1 (sem_lenS hT c t x y s ho hc0 hca hct hx hy hk) nof (efok0 _ _) h
      · exact h.elim
    · exact h.elim
  · exact h.elim
theorem kindOfSrc_ok {T : Tys} {tx : TypeId} {y : TV} (h : kindOfSrc T tx y) : ∃ yx, T tx = some yx ∧ ((yx.kind = .str ∧ ∃ s, y = .a (.s (.str s))) ∨ ((∃ e', yx.kind = .slice e') ∧ ¬ ∃ s, y = .a (.s (.str s)))) := by
  unfold kindOfSrc at h
  split at h
  · split at h
    · rename_i z hz; exact ⟨z, hz, .inl ⟨h, _, rfl⟩⟩
    · exact h.elim
  · split at h
    · rename_i z hz
      split at h
      · rename_i e hk; exact ⟨z, hz, .inr ⟨⟨e, hk⟩, by rintro ⟨s, hs⟩; cases hs⟩⟩
      · exact h.elim
    · exact h.elim
  · split at h
    · rename_i z hz
      split at h
      · rename_i e hk; exact ⟨z, hz, .inr ⟨⟨e, hk⟩, by rintro ⟨s, hs⟩; cases hs⟩⟩
      · exact h.elim
    · exact h.elim
  · exact h.elim
theorem vSrc_ok {es : Nat} {y : Operand} {C : List (Nat × Row) → Nat → List SV → Prop} (h : vSrc hp es (tv y) C) : ∃ fp m l, SrcS tv y es fp m l ∧ (∀ p ∈ fp, hp p.1 = some p.2) ∧ C fp m l := by
  unfold vSrc at h
  split at h
  · rename_i hy; exact ⟨[], 0, [], .inl ⟨hy, rfl, rfl, rfl⟩, nof, h⟩
  · rename_i j k m hy
    obtain ⟨r, h1, l, ⟨h2, h3, h4⟩, h5⟩ := h
    exact ⟨_, m, l, .inr (.inl ⟨j, k, r, hy, rfl, h2, h3, h4⟩), onef h1, h5⟩
  · rename_i s hy
    obtain ⟨h1, h2⟩ := h
    exact ⟨[], s.size, bytesS s, .inr (.inr ⟨s, hy, rfl, rfl, rfl, h1⟩), nof, h2⟩
  · exact h.elim
theorem vAppend_sound {T : Tys} (hT : TysOk P T) {c : Call} {t tx : TypeId} {x y : Operand} (ho : o.op = .call c) (hc0 : c.callee = .builtin .append) (hca : c.args = #[x, y]) (hct : c.argTypes = #[t, tx]) (h : vAppend T hp n0 t tx (tv x) (tv y) K) : Snd P det o tv hp n0 K := by
  unfold vAppend at h
  split at h
  · rename_i yt hyt
    split at h
    · rename_i e hk
      split at h
      · rename_i ye hye
        obtain ⟨h1, h2⟩ := h
        obtain ⟨yx, hyx, hkx⟩ := kindOfSrc_ok h1
        obtain ⟨fp, m, l, h3, h4, h5⟩ := vSrc_ok h2
        split at h5
        · rename_i hx
          obtain ⟨⟨h6, h7⟩, h8⟩ := h5
          exact snd1 (sem_appendNil hT c t tx e x y yt yx ye m fp l ho hc0 hca hct hx hyt hk hye hyx hkx h3 h6 h7) h4 (efok1 _ _ _) h8
        · rename_i i k n hx
          obtain ⟨rfl, r, h6, ⟨h7, h8, h9, h10, h11⟩, n', rfl, c', rfl, h12⟩ := h5
          exact snd1 (sem_append hT c t tx e x y yt yx ye i n m r fp l ho hc0 hca hct hx hyt hk hye hyx hkx h3 h7 h8 h9 h10 h11) (consf h6 h4) (efokU _ _ _ _ _ _ (fun p h => by simp at h; subst h; simp [stride])) h12
        · exact h5.elim
      · exact h.elim
    · exact h.elim
  · exact h.elim
theorem vSrcC_ok {es n : Nat} {y : Operand} {C : List (Nat × Row) → Nat → List SV → Prop} (h : vSrcC hp es (tv y) n C) : ∃ fp m q l, SrcC tv y es fp m q l ∧ q = min m n ∧ (∀ p ∈ fp, hp p.1 = some p.2) ∧ C fp q l := by
  unfold vSrcC at h
  split at h
  · rename_i hy; exact ⟨[], 0, 0, [], .inl ⟨hy, rfl, rfl, rfl, rfl⟩, by omega, nof, h⟩
  · rename_i j k m hy
    obtain ⟨q, h0, r, h1, l, ⟨h2, h3, h4⟩, h5⟩ := h
    exact ⟨_, m, q, l, .inr (.inl ⟨j, k, r, hy, rfl, by omega, h2, h3, h4⟩), h0.symm, onef h1, h5⟩
  · rename_i s hy
    obtain ⟨q, h0, h1, h2⟩ := h
    exact ⟨[], s.size, q, _, .inr (.inr ⟨s, hy, rfl, rfl, by omega, rfl, h1⟩), h0.symm, nof, h2⟩
  · exact h.elim
theorem vCopy_sound {T : Tys} (hT : TysOk P T) {c : Call} {t tx : TypeId} {x y : Operand} (ho : o.op = .call c) (hc0 : c.callee = .builtin .copy) (hca : c.args = #[x, y]) (hct : c.argTypes = #[t, tx]) (h : vCopy T hp t (tv x) (tv y) K) : Snd P det o tv hp n0 K := by
  unfold vCopy at h
  split at h
  · rename_i yt hyt
    split at h
    · rename_i e hk
      split at h
      · rename_i ye hye
        split at h
        · rename_i i k n hx
          obtain ⟨fp, m, q, l, h3, h4, h5, r, h6, ⟨h7, h8⟩, c', rfl, h9⟩ := vSrcC_ok h
          exact snd1 (sem_copy hT c t tx e x y yt ye i k n m q r fp l ho hc0 hca hct hx hyt hk hye h3 h4 h7 h8) (consf h6 h5) (efokU _ _ _ _ _ _ (fun p h => (by cases h))) h9
        · exact h.elim
      · exact h.elim
    · exact h.elim
  · exact h.elim
theorem vConv_sound {T : Tys} (hT : TysOk P T) {s d : TypeId} {x : Operand} (ho : o.op = .convert s d x) (h : vConv T hp s d (tv x) K) : Snd P det o tv hp n0 K := by
  unfold vConv at h
  split at h
  · rename_i ys yd hs hd
    split at h
    · rename_i q z k hx hk; obtain ⟨u, rfl, h⟩ := h; exact snd1 (sem_convI hT s d x ys yd k q z ho hx hs hd hk) nof (efok0 _ _) h
    · rename_i z hx hk; exact snd1 (sem_convStr hT s d x ys yd z ho hx hs hd hk) nof (efok0 _ _) h
    · rename_i hx hk
      split at h
      · rename_i e he
        split at h
        · rename_i ye hye
          split at h
          · rename_i hu; exact snd1 (sem_convBN hT s d e x ys yd ye ho hx hs he hye hu hd hk) nof (efok0 _ _) h
          · exact h.elim
        · exact h.elim
      · exact h.elim
    · rename_i i k n hx hk
      split at h
      · rename_i e he
        split at h
        · rename_i ye hye
          split at h
          · rename_i hu
            obtain ⟨r, h1, l, ⟨h2, h3⟩, xs, h4, h5⟩ := h
            exact snd1 (sem_convB hT s d e x ys yd ye i k n r l xs ho hx hs he hye hu hd hk h2 h3 h4) (onef h1) (efok0 _ _) h5
          · exact h.elim
        · exact h.elim
      · exact h.elim
    · exact h.elim
  · exact h.elim
theorem vSlice_sound {T : Tys} (hT : TysOk P T) {t : TypeId} {x : Operand} {lo hi : Option Operand} (ho : o.op = .slice t x lo hi none) (h : vSlice T hp t (tv x) (fun d => bndS tv (d.getD 0) lo) (fun d => bndS tv (d.getD 0) hi) K) : Snd P det o tv hp n0 K := by
  unfold vSlice at h
  split at h
  · rename_i y hy
    split at h
    · rename_i s hx hk
      split at h
      · rename_i l q hl hh
        obtain ⟨⟨h1, h2, h3⟩, z, rfl, h⟩ := h
        exact snd1 (sem_sliceS hT t x lo hi y s l q ho hx hy hk hl hh h1 h2 h3) nof (efok0 _ _) h
      · exact h.elim
    · rename_i i k n e hx hk
      split at h
      · rename_i ye l q he hl hh
        obtain ⟨r, h1, ⟨h2, h3, h4, h5⟩, o', rfl, n', rfl, h6⟩ := h
        exact snd1 (sem_slice hT t e x lo hi y ye i k n r l q ho hx hy hk he h2 hl hh h3 h4 h5) (onef h1) (efok0 _ _) h6
      · exact h.elim
    · rename_i e hx hk
      split at h
      · rename_i ye l q he hl hh
        obtain ⟨⟨rfl, rfl⟩, h⟩ := h
        exact snd1 (sem_sliceNil hT t e x lo hi y ye ho hx hy hk he hl hh) nof (efok0 _ _) h
      · exact h.elim
    · exact h.elim
  · exact h.elim
theorem toL1 {α : Type} {a : Array α} {x : α} (h : a.toList = [x]) : a = #[x] := by apply Array.ext'; simpa using h
theorem toL2 {α : Type} {a : Array α} {x y : α} (h : a.toList = [x, y]) : a = #[x, y] := by apply Array.ext'; simpa using h
theorem toL0 {α : Type} {a : Array α} (h : a.toList = []) : a = #[] := by apply Array.ext'; simpa using h
theorem vop_sound {T : Tys} (hT : TysOk P T) (h : vop P T det o tv hp n0 K) : Snd P det o tv hp n0 K := by
  unfold vop at h
  split at h
  · rename_i x ho; exact snd1 (sem_move x ho) nof (efok0 _ _) h
  · rename_i x ho; exact snd1 (sem_assign x ho) nof (efok0 _ _) h
  · rename_i c x y ho
    split at h
    · rename_i b hc
      cases b
      · exact snd1 (sem_pick c x y false ho hc) nof (efok0 _ _) h
      · exact snd1 (sem_pick c x y true ho hc) nof (efok0 _ _) h
    · exact h.elim
  · rename_i op t x y t2 ho; exact vBin_sound hT ho h
  · rename_i op t x ho; exact vUn_sound ho h
  · rename_i t ho
    split at h
    · rename_i y hy; rw [fL_iff] at h; exact snd1 (sem_alloc hT t y ho hy) nof (efok1 _ _ _) h
    · exact h.elim
  · rename_i t x ho
    split at h
    · rename_i u hx; rw [fA_iff] at h; obtain ⟨h1, h⟩ := h; exact snd1 (sem_box t x u ho hx h1) nof (efok1 _ _ _) h
    · exact h.elim
  · rename_i t x ho
    split at h
    · rename_i i k hx
      split at h
      · rename_i y hy
        split at h
        · rename_i hk
          obtain ⟨r, h1, s, h2, h3⟩ := h
          exact snd1 (sem_load hT t x y i k r s ho hx hy hk h2) (onef h1) (efok0 _ _) h3
        · rename_i hk
          obtain ⟨r, h1, l, ⟨h2, h4⟩, h3⟩ := h
          exact snd1 (sem_loadAgg hT t x y i k r l ho hx hy hk h2 h4) (onef h1) (efok0 _ _) h3
      · exact h.elim
    · exact h.elim
  · rename_i t x z ho
    split at h
    · rename_i i k u hx hz
      split at h
      · rename_i y hy
        rw [fA_iff] at h
        obtain ⟨r, h1, ⟨h2, h3, h4, h5⟩, c', rfl, h6⟩ := h
        exact snd1 (sem_store hT t x z y i k r u ho hx hz hy h2 h3 h4 h5) (onef h1) (efokU _ _ _ _ _ _ (fun p h => (by cases h))) h6
      · exact h.elim
    · exact h.elim
  · rename_i x ho
    split at h
    · rename_i i k hx; exact snd1 (sem_nilCheck x i k ho hx) nof (efok0 _ _) h
    · rename_i f cap hx; exact snd1 (sem_nilCheckF x f cap ho hx) nof (efok0 _ _) h
    · exact h.elim
  · rename_i t x f ho
    split at h
    · rename_i i k y hx hy
      split at h
      · rename_i fs hk
        split at h
        · rename_i p hf
          split at h
          · rename_i yf hyf
            split at h
            · rename_i hs; exact snd1 (sem_fieldAddr hT t x f y yf fs p i k ho hx hy hk hf hyf hs) nof (efok0 _ _) h
            · exact h.elim
          · exact h.elim
        · exact h.elim
      · exact h.elim
    · exact h.elim
  · rename_i t x ix ho
    split at h
    · rename_i i k n q z y hx hix hy
      split at h
      · rename_i e hk
        split at h
        · rename_i ye he
          obtain ⟨⟨h1, h2⟩, o', rfl, h3⟩ := h
          exact snd1 (sem_indexAddr hT t e x ix y ye i k n q z ho hx hix hy hk he h1 h2) nof (efok0 _ _) h3
        · exact h.elim
      · exact h.elim
    · rename_i i k q z y hx hix hy
      split at h
      · rename_i n e hk
        split at h
        · rename_i ye he
          obtain ⟨⟨h1, h2⟩, o', rfl, h3⟩ := h
          exact snd1 (sem_indexAddrA hT t e x ix y ye i k n q z ho hx hix hy hk he h1 h2) nof (efok0 _ _) h3
        · exact h.elim
      · exact h.elim
    · exact h.elim
  · rename_i t x ix ho
    split at h
    · rename_i s q z y hx hix hy
      obtain ⟨⟨hk, h1⟩, b, h2, h3⟩ := h
      exact snd1 (sem_indexS hT t x ix y s q z b ho hx hix hy hk h1 h2) nof (efok0 _ _) h3
    · rename_i l q z y hx hix hy
      split at h
      · rename_i n e hk
        split at h
        · rename_i ye he
          obtain ⟨⟨h1, h2⟩, u, h3, h4⟩ := h
          exact snd1 (sem_indexA hT t e x ix y ye l n u q z ho hx hix hy hk he h1 h2 h3) nof (efok0 _ _) h4
        · exact h.elim
      · exact h.elim
    · exact h.elim
  · rename_i t x f ho
    split at h
    · rename_i l y hx hy
      split at h
      · rename_i fs hk
        split at h
        · rename_i p hf
          split at h
          · rename_i yf hyf
            obtain ⟨u, h1, h2⟩ := h
            exact snd1 (sem_field hT t x f y yf fs p l u ho hx hy hk hf hyf h1) nof (efok0 _ _) h2
          · exact h.elim
        · exact h.elim
      · exact h.elim
    · exact h.elim
  · rename_i x k ho
    split at h
    · rename_i l hx
      split at h
      · rename_i u hu; exact snd1 (sem_extract x k l u ho hx hu) nof (efok0 _ _) h
      · exact h.elim
    · exact h.elim
  · rename_i t parts ho
    split at h
    · rename_i y ps hy hps
      split at h
      · rename_i fs hk
        split at h
        · rename_i pl hpl
          obtain ⟨l, hl, h⟩ := h
          exact snd1 (sem_build hT t parts y ps l ho hy hps (.inl ⟨fs, pl, hk, hpl, hl⟩)) nof (efok0 _ _) h
        · exact h.elim
      · rename_i n e hk
        split at h
        · rename_i ye he
          obtain ⟨l, hl, h⟩ := h
          exact snd1 (sem_build hT t parts y ps l ho hy hps (.inr ⟨n, e, ye, hk, he, hl⟩)) nof (efok0 _ _) h
        · exact h.elim
      · exact h.elim
    · exact h.elim
  · rename_i t n parts ho
    split at h
    · rename_i y ps hy hps
      split at h
      · rename_i e hk
        split at h
        · rename_i ye he
          split at h
          · rename_i hb
            obtain ⟨l, hl, h1, h⟩ := h
            exact snd1 (sem_buildSlice hT t e n parts y ye ps l ho hy hk he hps hb hl h1) nof (efok1 _ _ _) h
          · exact h.elim
        · exact h.elim
      · exact h.elim
    · exact h.elim
  · rename_i t x y ho
    split at h
    · rename_i q l q2 c yt hx hy hyt
      split at h
      · rename_i e hk
        split at h
        · rename_i ye he
          obtain ⟨⟨h1, h2, h3, h4⟩, n, rfl, cells, ⟨h6, h7⟩, h8⟩ := h
          exact snd1 (sem_make hT t e x y yt ye q q2 l c ho hx hy hyt hk he h1 h2 h3 h4 cells h6 h7) nof (efok1 _ _ _) h8
        · exact h.elim
      · exact h.elim
    · exact h.elim
  · rename_i t x lo hi ho; exact vSlice_sound hT ho h
  · rename_i s d x ho; exact vConv_sound hT ho h
  · rename_i f first cs ho
    split at h
    · rename_i hf
      have hf := toL0 hf
      subst hf
      split at h
      · rename_i cap hc; exact snd1 (sem_makeFunc f cs cap ho hc) nof (efok0 _ _) h
      · exact h.elim
    · exact h.elim
  · rename_i c ho
    split at h
    · rename_i fo hc0
      split at h
      · rename_i f cap l hfo hl; exact vCall_sound ho hc0 hfo hl h
      · exact h.elim
    · rename_i hc0
      split at h
      · rename_i x t hx ht; exact vLen_sound hT ho hc0 (toL1 hx) (toL1 ht) h
      · exact h.elim
    · rename_i hc0
      split at h
      · rename_i x y t tx hx ht; exact vAppend_sound hT ho hc0 (toL2 hx) (toL2 ht) h
      · exact h.elim
    · rename_i hc0
      split at h
      · rename_i x y t tx hx ht; exact vCopy_sound hT ho hc0 (toL2 hx) (toL2 ht) h
      · exact h.elim
    · rename_i hc0
      split at h
      · rename_i x l hx
        split at h
        · rename_i k z0 hx0
          split at h
          · rename_i z r hz
            obtain ⟨u, rfl, h⟩ := h
            exact snd1 (sem_min c k x l z r ho hc0 hx hz) nof (efok0 _ _) h
          · exact h.elim
        · exact h.elim
      · exact h.elim
    · exact h.elim
  · exact h.elim
end Go.Proofs.Ytffhbadeoadbkaa
