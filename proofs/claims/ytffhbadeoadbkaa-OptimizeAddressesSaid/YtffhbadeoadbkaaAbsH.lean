/- What one operation does, said of the abstract machine: append, copy, make, conversions of bytes. -/
import Derived.Test.YtffhbadeoadbkaaAbsG
namespace Go.Proofs.Ytffhbadeoadbkaa
open Go Go.RowKit
variable {P : Program} {o : Oper} {tv : Operand → TV} {n0 : Nat}

theorem exec_builtin (c : Call) (b : Builtin) (x y : Operand) (a : Act) (w w' : World) (v : Value) (f : Array TypeId → TypeId → Array Value → Sem Value) (ho : o.op = .call c) (hc0 : c.callee = .builtin b) (hca : c.args = #[x, y])
    (hb : ∀ ct ty k vs, builtin b ct ty k vs = (do pure (.value (← f ct ty vs)))) (hr : (f c.argTypes o.type #[a.eval x, a.eval y]).run P w = .ok v w') : (execOp a.eval o).run P w = .ok (.value v) w' := by
  unfold execOp; rw [ho]
  simp [resolve, hc0, hca, invoke, hb, hr]
theorem zeroCells_get (zero : Array Value) (n j : Nat) (h : j < n * zero.size) : ∃ v, (Builtin.zeroCells zero n)[j]? = some v := by
  refine ⟨_, Array.getElem?_eq_getElem (by simpa [Builtin.zeroCells] using h)⟩
theorem app_grow (v : TV) (i n : Nat) (r : Row) (hp : Hp) : Ef.app ⟨v, [(i, none)], [(n, r)]⟩ hp = Hp.set (Hp.set hp i none) n (some r) := by
  funext m
  show (match look [(n, r)] m with | some r => some r | none => match look [(i, (none : Option Row))] m with | some r => r | none => hp m) = _
  rw [look1, look1]
  unfold Hp.set
  by_cases h1 : m = n
  · simp [h1]
  · by_cases h2 : m = i
    · subst h2; simp [h1]
    · simp [h1, h2]
theorem app_new (v : TV) (n : Nat) (r : Row) (hp : Hp) : Ef.app ⟨v, [], [(n, r)]⟩ hp = Hp.set hp n (some r) := by
  funext m
  show (match look [(n, r)] m with | some r => some r | none => hp m) = _
  rw [look1]
  unfold Hp.set
  by_cases h1 : m = n <;> simp [h1]
theorem Nm.set_frame {ρ : Nm} {p : PL} (n : Nat) (hne : ¬ (n0 ≤ n ∧ n < n0 + stride)) : Nm.set ρ n0 p n = ρ n := by
  unfold Nm.set; rw [if_neg]; rintro rfl; exact hne ⟨Nat.le_refl _, by unfold stride; omega⟩
/-- append onto nil. -/
theorem sem_appendNil {T : Tys} (hT : TysOk P T) (c : Call) (t tx e : TypeId) (x y : Operand) (yt yx ye : Ty) (m : Nat) (fp : List (Nat × Row)) (l : List SV) (ho : o.op = .call c) (hc0 : c.callee = .builtin .append) (hca : c.args = #[x, y]) (hct : c.argTypes = #[t, tx])
    (hx : tv x = .a (.s .nilsl)) (hyt : T t = some yt) (hk : yt.kind = .slice e) (hye : T e = some ye) (hyx : T tx = some yx) (hkx : (yx.kind = .str ∧ ∃ s, tv y = .a (.s (.str s))) ∨ ((∃ e', yx.kind = .slice e') ∧ ¬ ∃ s, tv y = .a (.s (.str s))))
    (hs : SrcS tv y ye.size fp m l) (hb : m * ye.bytes ≤ 140737488355328) (hm : m ≤ 9223372036854775807) :
    SemOp P o tv n0 fp (· = ⟨.a (.s (.sl n0 0 m)), [], [(n0, ⟨true, ye.size, l⟩)]⟩) := by
  intro F ρ hp a w Q K h1 hc hf hfr hK
  have e1 : a.eval x = .slice none 0 0 := eval2 h1 (by rw [ho]; simp [Op.operands, Call.operands, hca, hc0]) hx
  have e2 := h1 y (by rw [ho]; simp [Op.operands, Call.operands, hca, hc0])
  have hu := (hT t yt hyt).sl hk
  obtain ⟨de, ie, z, k1, k2, k3, k4, _, k6, k7, k8⟩ := hT e ye hye
  obtain ⟨news, hv, hsrc, hlen, hkn⟩ := src_ok (P := P) hs e2 hc hf (fun ⟨s, hs⟩ => by
    rcases hkx with ⟨h, _⟩ | ⟨_, h⟩
    · exact (hT tx yx hyx).str h
    · exact absurd ⟨s, hs⟩ h) (fun hn => by
    rcases hkx with ⟨_, h⟩ | ⟨⟨e', h⟩, _⟩
    · exact absurd h hn
    · exact ⟨e', (hT tx yx hyx).sl h⟩)
  have hn : ρ n0 = none := hfr n0 (Nat.le_refl _) (by unfold stride; omega)
  rw [← k3] at hsrc
  unfold Oper.wp
  rcases Nat.eq_zero_or_pos m with rfl | hpos
  · have hl0 : l = [] := by rw [Nat.zero_mul] at hlen; exact List.eq_nil_of_length_eq_zero hlen
    subst hl0
    have hn0 : news = [] := by have := hv.1; simpa using this.symm
    subst hn0
    have hr := run_append_room0 (P := P) w t tx o.type e ie hu k2 none 0 (a.eval y) hsrc
    rw [exec_builtin c .append x y a w w _ Builtin.append_ ho hc0 hca (fun _ _ _ _ => rfl) (by rw [hct, e1]; exact hr), Oper.upon_value]
    obtain ⟨g1, g2⟩ := hc.newEmpty hn ye.size
    refine hK _ _ _ _ rfl g1 (fun n hne => Nm.set_frame n hne) ⟨none, 0, rfl, Nat.le_refl _, .inr ⟨Nm.set_same _ _ _, rfl⟩⟩ ?_
    rw [app_new]; exact g2
  · have hr := run_append_grow_src (P := P) w t tx o.type e ie z hu k2 k6 none 0 0 [] (by simp [Builtin.firstCells]) (a.eval y) m news hsrc (by omega) (by omega) (by rw [k4]; simpa using growslice_fits (old := 0) (need := 0 + m) (by omega) (by simpa using hb))
    simp only [Nat.zero_add, List.nil_append] at hr
    rw [exec_builtin c .append x y a w _ _ Builtin.append_ ho hc0 hca (fun _ _ _ _ => rfl) (by rw [hct, e1]; exact hr), Oper.upon_value]
    have hvl : l.length = news.length := hv.1
    have hge := grownCap_ge w m 0 e
    obtain ⟨g1, g2⟩ := hc.drew.new hn ye.size l (news.toArray ++ Builtin.zeroCells z.cells (grownCap w m 0 e - m)) e (by simp; omega) (fun k s hs => by
      obtain ⟨v, q1, q2⟩ := hv.2 k s hs
      have hk : k < news.length := (List.getElem?_eq_some_iff.1 q1).1
      exact ⟨v, by rw [Array.getElem?_append_left (by simpa using hk)]; simpa using q1, q2⟩)
    have hzs : z.cells.size = ye.size := by rw [← k8, ← k7]; simp
    refine hK _ _ _ _ rfl g1 (fun n hne => Nm.set_frame n hne) ⟨_, _, rfl, hge, .inl ⟨_, Nm.set_same _ _ _, .inl ⟨rfl, ?_⟩⟩⟩ ?_
    · simp only [Array.size_append, List.size_toArray, size_zeroCells, hzs, Nat.zero_add]
      rw [← hvl, hlen, ← Nat.add_mul]
      exact Nat.mul_le_mul_right _ (by omega)
    · rw [app_new]; exact g2
/-- append onto a row of the call's own. -/
theorem sem_append {T : Tys} (hT : TysOk P T) (c : Call) (t tx e : TypeId) (x y : Operand) (yt yx ye : Ty) (i n m : Nat) (r : Row) (fp : List (Nat × Row)) (l : List SV) (ho : o.op = .call c) (hc0 : c.callee = .builtin .append) (hca : c.args = #[x, y]) (hct : c.argTypes = #[t, tx])
    (hx : tv x = .a (.s (.sl i 0 n))) (hyt : T t = some yt) (hk : yt.kind = .slice e) (hye : T e = some ye) (hyx : T tx = some yx) (hkx : (yx.kind = .str ∧ ∃ s, tv y = .a (.s (.str s))) ∨ ((∃ e', yx.kind = .slice e') ∧ ¬ ∃ s, tv y = .a (.s (.str s))))
    (hs : SrcS tv y ye.size fp m l) (hown : r.own = true) (hes : r.es = ye.size) (hrl : r.cells.length = n * ye.size) (hb : (n + m) * ye.bytes ≤ 140737488355328) (hm : n + m ≤ 9223372036854775807) :
    SemOp P o tv n0 ((i, r) :: fp) (· = ⟨.a (.s (.sl n0 0 (n + m))), [(i, none)], [(n0, ⟨true, ye.size, r.cells ++ l⟩)]⟩) := by
  intro F ρ hp a w Q K h1 hc hf hfr hK
  obtain ⟨A, cc, e1, hncc, e3⟩ := eval2 h1 (by rw [ho]; simp [Op.operands, Call.operands, hca, hc0]) hx
  have e2 := h1 y (by rw [ho]; simp [Op.operands, Call.operands, hca, hc0])
  have hu := (hT t yt hyt).sl hk
  obtain ⟨de, ie, z, k1, k2, k3, k4, _, k6, k7, k8⟩ := hT e ye hye
  obtain ⟨news, hv, hsrc, hlen, hkn⟩ := src_ok (P := P) hs e2 hc (fun p hp => hf p (List.mem_cons_of_mem _ hp)) (fun ⟨s, hs⟩ => by
    rcases hkx with ⟨h, _⟩ | ⟨_, h⟩
    · exact (hT tx yx hyx).str h
    · exact absurd ⟨s, hs⟩ h) (fun hn => by
    rcases hkx with ⟨_, h⟩ | ⟨⟨e', h⟩, _⟩
    · exact absurd h hn
    · exact ⟨e', (hT tx yx hyx).sl h⟩)
  have hn : ρ n0 = none := hfr n0 (Nat.le_refl _) (by unfold stride; omega)
  have hr0 := hf (i, r) (by simp)
  simp only [] at hr0
  rw [← k3] at hsrc
  have hvl : l.length = news.length := hv.1
  have hzs : z.cells.size = ye.size := by rw [← k8, ← k7]; simp
  have hin : i ≠ n0 := by rintro rfl; have := hc.rows _ _ hr0; unfold RowOk at this; rw [hn] at this; exact this.elim
  unfold Oper.wp
  have fresh : ∀ olds : List Value, VSs ρ r.cells olds → (Builtin.firstCells ie.size n (.slice A n cc)).run P w.drew = .ok olds.toArray w.drew → cc < n + m →
      o.upon P a K Q ((execOp a.eval o).run P w) := by
    intro olds ho' hfc hlt
    have hr := run_append_grow_src (P := P) w t tx o.type e ie z hu k2 k6 A n cc olds hfc (a.eval y) m news hsrc hlt (by omega) (by rw [k4]; exact growslice_fits hlt hb)
    rw [exec_builtin c .append x y a w _ _ Builtin.append_ ho hc0 hca (fun _ _ _ _ => rfl) (by rw [hct, e1]; exact hr), Oper.upon_value]
    have hge := grownCap_ge w (n + m) cc e
    have hol : r.cells.length = olds.length := ho'.1
    have hless : Conc F ρ (Hp.set hp i none) w.drew := hc.drew.less fun k s hs => by unfold Hp.set at hs; split at hs; cases hs; exact hs
    obtain ⟨g1, g2⟩ := hless.new hn ye.size (r.cells ++ l) ((olds ++ news).toArray ++ Builtin.zeroCells z.cells (grownCap w (n + m) cc e - (n + m))) e (by simp; omega) (fun k s hs => by
      by_cases hk : k < r.cells.length
      · rw [List.getElem?_append_left hk] at hs
        obtain ⟨v, q1, q2⟩ := ho'.2 k s hs
        exact ⟨v, by rw [Array.getElem?_append_left (by simp; omega)]; simp; rw [List.getElem?_append_left (by omega)]; exact q1, q2⟩
      · rw [List.getElem?_append_right (by omega)] at hs
        obtain ⟨v, q1, q2⟩ := hv.2 _ s hs
        have hk2 : k - r.cells.length < news.length := (List.getElem?_eq_some_iff.1 q1).1
        exact ⟨v, by rw [Array.getElem?_append_left (by simp; omega)]; simp; rw [List.getElem?_append_right (by omega), ← hol]; exact q1, q2⟩)
    refine hK _ _ _ _ rfl g1 (fun n hne => Nm.set_frame n hne) ⟨_, _, rfl, hge, .inl ⟨_, Nm.set_same _ _ _, .inl ⟨rfl, ?_⟩⟩⟩ ?_
    · simp only [Array.size_append, List.size_toArray, size_zeroCells, hzs, Nat.zero_add, List.length_append]
      rw [← hvl, hlen, ← hol, hrl, ← Nat.add_mul, ← Nat.add_mul]
      exact Nat.mul_le_mul_right _ (by omega)
    · rw [app_grow]; exact g2
  have empty : cc = 0 → o.upon P a K Q ((execOp a.eval o).run P w) := by
    intro h6
    have hn00 : n = 0 := by omega
    have hr00 : r.cells = [] := List.eq_nil_of_length_eq_zero (by rw [hrl, hn00, Nat.zero_mul])
    rcases Nat.eq_zero_or_pos m with hm0 | hpos
    · subst hn00 hm0 h6
      have hl0 : l = [] := by rw [Nat.zero_mul] at hlen; exact List.eq_nil_of_length_eq_zero hlen
      subst hl0
      have hn0' : news = [] := by have := hv.1; simpa using this.symm
      subst hn0'
      have hr := run_append_room0 (P := P) w t tx o.type e ie hu k2 A 0 (a.eval y) hsrc
      rw [exec_builtin c .append x y a w w _ Builtin.append_ ho hc0 hca (fun _ _ _ _ => rfl) (by rw [hct, e1]; exact hr), Oper.upon_value]
      have hless : Conc F ρ (Hp.set hp i none) w := hc.less fun k s hs => by unfold Hp.set at hs; split at hs; cases hs; exact hs
      obtain ⟨g1, g2⟩ := hless.newEmpty hn ye.size
      refine hK _ _ _ _ rfl g1 (fun n hne => Nm.set_frame n hne) ⟨A, 0, rfl, Nat.le_refl _, .inr ⟨Nm.set_same _ _ _, rfl⟩⟩ ?_
      rw [app_grow, hr00]; exact g2
    · refine fresh [] (by rw [hr00]; exact ⟨rfl, fun k s e => by cases e⟩) ?_ (by omega)
      subst hn00
      cases A with
      | none => simp [Builtin.firstCells]
      | some b => simp [Builtin.firstCells, loadCells, loadCellsFrom]
  rcases e3 with ⟨L, hL, ⟨rfl, hbd⟩ | h6⟩ | ⟨_, h6⟩
  · obtain ⟨hes2, hfit, cur, ct, fz, q1, q2, q3, q4⟩ := row_at hc hr0 hL
    have q3 := q3 hown
    subst q3
    by_cases hroom : n + m ≤ cc
    · have hroomc : L.δ + n * ye.size + news.length ≤ cur.size := by
        rw [q2, ← hvl, hlen]
        rw [hes2, hes] at hbd
        have : (n + m) * ye.size ≤ cc * ye.size := Nat.mul_le_mul_right _ hroom
        rw [Nat.add_mul] at this
        omega
      have hr := run_append_room (P := P) w t tx o.type e ie hu k2 L.b (L.δ + 0) n cc (a.eval y) m news hsrc hroom cur ct q1 (by rw [k3]; simpa using hroomc)
      rw [exec_builtin c .append x y a w _ _ Builtin.append_ ho hc0 hca (fun _ _ _ _ => rfl) (by rw [hct, e1]; exact hr), Oper.upon_value]
      rw [k3, Nat.add_zero]
      obtain ⟨g1, g2⟩ := hc.grow hn hr0 hown hL (w' := w.setRow L.b (cur.toList.take (L.δ + n * ye.size) ++ news ++ cur.toList.drop (L.δ + n * ye.size + news.length)).toArray) (r.cells ++ l)
        (setRow_heap w L.b cur _ ct _ q1) (by simp only [List.size_toArray, List.length_append, List.length_take, List.length_drop, Array.length_toList]; omega) (by rw [List.length_append, hrl, hvl]; omega) (fun k s hs => by
          simp only [List.getElem?_toArray]
          rw [seg_get rfl (by simp; omega)]
          by_cases hk : k < r.cells.length
          · rw [List.getElem?_append_left hk] at hs
            rw [if_neg (by omega)]
            obtain ⟨v, p1, p2⟩ := q4 k s hs
            exact ⟨v, by simpa using p1, p2⟩
          · rw [List.getElem?_append_right (by omega)] at hs
            obtain ⟨v, p1, p2⟩ := hv.2 _ s hs
            have hk2 : k - r.cells.length < news.length := (List.getElem?_eq_some_iff.1 p1).1
            rw [if_pos (by omega)]
            exact ⟨v, by rw [← p1]; congr 1; omega, p2⟩)
        (fun b hb => setRow_other _ _ _ _ hb) (by simp) rfl rfl rfl
      refine hK _ _ _ _ rfl g1 (fun n hne => Nm.set_frame n hne) ⟨_, cc, rfl, hroom, .inl ⟨L, Nm.set_same _ _ _, .inl ⟨rfl, by simpa using hbd⟩⟩⟩ ?_
      rw [app_grow]
      have : ({ r with cells := r.cells ++ l } : Row) = ⟨true, ye.size, r.cells ++ l⟩ := by rw [← hown, ← hes]
      rw [← this]; exact g2
    · obtain ⟨vs, g1, g2⟩ := row_seg (P := P) hc.drew hr0 hL 0 r.cells (fun j s e => by simpa using e)
      refine fresh vs g1 ?_ (by omega)
      rw [hrl] at g2
      simp only [Builtin.firstCells, k3]
      exact g2
  · exact empty h6
  · exact empty h6
end Go.Proofs.Ytffhbadeoadbkaa
