/- Laws for single operations on slices that read as lists: append, copy, make; over any program. -/
import Derived.Test.YtmefbkfapeijgaaBase
import Derived.Maps.AppendAt
import Derived.Deep.AppendLies
import Derived.Laws.CopyOwn
namespace Go.Proofs.Ytmefbkfapeijgaa
open Go.RowKit
section
variable {P : Program} (w : World)

theorem run_append_of_nil (base : Nat) (t ty e : TypeId) (i : TypeInfo) (size : Nat) (ht : P.underlying t = some (.slice e)) (hi : P.info? e = some i)
    (v : Value) (n : Nat) (xs : List Value) (hown : w.ownsRow base e size v n xs) (c : Nat) : (Builtin.append_ #[t, t] ty #[v, .slice none 0 c]).run P w = .ok v w := by
  rcases hown.2 with ⟨rfl, rfl⟩ | ⟨g, cap, cur, rfl, _, _, hnc, _⟩
  · simp [Builtin.append_, run_underlying ht, sizeOf, typeInfo, hi, Builtin.lenOf, Builtin.firstCells]
  · simp [Builtin.append_, run_underlying ht, sizeOf, typeInfo, hi, Builtin.lenOf, Builtin.firstCells, hnc, storeCells]

theorem run_append_rd (base : Nat) (t ty e : TypeId) (i : TypeInfo) (z : Value) (size bytes : Nat) (ht : P.underlying t = some (.slice e)) (hi : P.info? e = some i) (hz : i.zero = some z)
    (hsize : i.size = size) (hby : i.bytes = bytes) (hzs : z.cells.size = size) (hsz : 0 < size)
    (v : Value) (n : Nat) (xs : List Value) (hown : w.ownsRow base e size v n xs)
    (B : Nat) (A : Option Addr) (m c : Nat) (news : List Value) (hl : news.length = m * size) (hn : A = none → m = 0) (hr : Rd w B A news) (h1 : ∀ u ∈ news, u.oneCell' = true)
    (h63 : n + m ≤ maxLen) (hbytes : (n + m) * bytes ≤ 140737488355328) (hbase : base ≤ w.heap.size) :
    ∃ v' w', (Builtin.append_ #[t, t] ty #[v, .slice A m c]).run P w = .ok v' w' ∧ w'.ownsRow base e size v' (n + m) (xs ++ news) ∧ w.grownBy w' v.ownBlock ∧
      (v'.ownBlock = v.ownBlock ∨ v'.ownBlock = some w.heap.size) := by
  rcases A with _ | ad
  · have hm := hn rfl
    subst hm
    have hn : news = [] := List.eq_nil_of_length_eq_zero (by simpa using hl)
    subst hn
    exact ⟨v, w, run_append_of_nil w base t ty e i size ht hi v n xs hown c, by simpa using hown, World.grownBy.refl w _, .inl rfl⟩
  · have hcells : ∀ j u, news[j]? = some u → w.cell? (ad.add j) = some u := by
      intro j u hu
      obtain ⟨hj, he⟩ := List.getElem?_eq_some_iff.1 hu
      obtain ⟨b, off, h, _, hc⟩ := hr (by omega)
      injection h with h
      subst h
      have := hc j hj
      rw [hu] at this
      rw [← this]
      by_cases h0 : j = 0
      · subst h0; rfl
      · simp [Addr.add, h0]
    obtain ⟨v', w', hrun, h2, h3, _, h5⟩ := run_append_own_at (P := P) w base t ty e i z size bytes ht hi hz hsize hby hzs hsz v n xs hown ad m c news hl hcells h1 h63 hbytes hbase
    exact ⟨v', w', hrun, h2, h3, h5⟩

/-- 'append(s, x...)' of a slice that reads as a list, nil let in, onto a row of the call's own. -/
theorem wpList_append_rd {ops : Array Oper} {rest : List Oper} {o : Oper} {a : Act} {Q : Exit → Act → World → Prop} (hgd : o.guard = none) (s x : Operand) (t : TypeId)
    (ho : o.op = .call { callee := .builtin .append, args := #[s, x], argTypes := #[t, t] })
    (base : Nat) (e : TypeId) (i : TypeInfo) (z : Value) (size bytes : Nat) (ht : P.underlying t = some (.slice e)) (hi : P.info? e = some i) (hz : i.zero = some z)
    (hsize : i.size = size) (hby : i.bytes = bytes) (hzs : z.cells.size = size) (hsz : 0 < size)
    (v : Value) (n : Nat) (xs : List Value) (hs : a.eval s = v) (hown : w.ownsRow base e size v n xs)
    (B : Nat) (A : Option Addr) (m c : Nat) (news : List Value) (hx : a.eval x = .slice A m c) (hl : news.length = m * size) (hn : A = none → m = 0) (hr : Rd w B A news) (h1 : ∀ u ∈ news, u.oneCell' = true)
    (h63 : n + m ≤ maxLen) (hbytes : (n + m) * bytes ≤ 140737488355328) (hbase : base ≤ w.heap.size)
    (h : ∀ v' w', w'.ownsRow base e size v' (n + m) (xs ++ news) → w.grownBy w' v.ownBlock → (v'.ownBlock = v.ownBlock ∨ v'.ownBlock = some w.heap.size) → wpList P ops Q rest (a.put o.dst v') w') : wpList P ops Q (o :: rest) a w := by
  refine wpList_plain hgd fun K hK => ?_
  obtain ⟨v', w', hrun, h2, h3, h4⟩ := run_append_rd (P := P) w base t o.type e i z size bytes ht hi hz hsize hby hzs hsz v n xs hown B A m c news hl hn hr h1 h63 hbytes hbase
  unfold Oper.wp execOp
  simp only [ho, resolve, invoke, builtin, Sem.run_bind, Sem.run_pure, Result.andThen_ok, List.map_toArray, List.map_cons, List.map_nil, hs, hx, hrun]
  exact hK _ _ (h v' w' h2 h3 h4)

/-- 'copy(d, s)' of as many cells as d has, onto a row of the call's own: d then holds the cells of s. -/
theorem wpList_copy_rd {ops : Array Oper} {rest : List Oper} {o : Oper} {a : Act} {Q : Exit → Act → World → Prop} (hgd : o.guard = none) (d s : Operand) (t : TypeId)
    (ho : o.op = .call { callee := .builtin .copy, args := #[d, s], argTypes := #[t, t] }) (e : TypeId) (hu : P.underlying t = some (.slice e)) (hsz : (P.info? e).map (·.size) = some 1)
    (base g dc B sc : Nat) (A : Option Addr) (olds cs : List Value) (hd : a.eval d = .slice (some ⟨g, 0, none⟩) cs.length dc) (hs : a.eval s = .slice A cs.length sc)
    (hown : w.ownsRow base e 1 (.slice (some ⟨g, 0, none⟩) cs.length dc) cs.length olds) (hr : Rd w B A cs) (h1 : ∀ v ∈ cs, v.oneCell' = true)
    (h : ∀ w', w'.ownsRow base e 1 (.slice (some ⟨g, 0, none⟩) cs.length dc) cs.length cs → w.grownBy w' (some g) → wpList P ops Q rest (a.put o.dst (goInt cs.length)) w') : wpList P ops Q (o :: rest) a w := by
  rcases hown.2 with ⟨h0, _⟩ | ⟨g', cap, cur, hv, hg, hh, hnc, hm, hcs, htk⟩
  · cases h0
  injection hv with hv1 hv2 hv3
  injection hv1 with hv1
  injection hv1 with hv1
  subst hv1 hv3
  have hh' : w.heap[g]? = some (.cells cur.toList.toArray e (0, 0)) := by simpa using hh
  by_cases h0 : cs.length = 0
  · obtain rfl : cs = [] := List.eq_nil_of_length_eq_zero h0
    refine wpList_copy_nothing hgd d s t t ho e hu hsz _ _ _ _ _ _ hd hs (by simp) ?_
    refine h w ⟨by simp, .inr ⟨g, dc, cur, rfl, hg, hh, by simp, hm, hcs, by simp⟩⟩ (World.grownBy.refl w _)
  · obtain ⟨b, off, rfl, hb, hc⟩ := hr (by omega)
    refine wpList_copy_own hgd d s t t ho e hu hsz g 0 _ _ ⟨b, off, none⟩ _ _ hd hs cur e hh cs (by simp) ?_ (by simp; omega) h1 ?_
    · intro j v hv
      obtain ⟨hj, he⟩ := List.getElem?_eq_some_iff.1 hv
      have := hc j hj
      rw [hv] at this
      rw [← this]
      by_cases h0 : j = 0
      · subst h0; rfl
      · simp [Addr.add, h0]
    · refine h _ ⟨by simp, .inr ⟨g, dc, _, rfl, hg, setRow_heap w g _ _ e _ hh, hnc, hm, ?_, ?_⟩⟩ ?_
      · simp; omega
      · simp
      · exact ⟨rfl, rfl, rfl, by simp [World.setRow], fun k _ hne => setRow_other w g k _ (fun e => hne (by rw [e]))⟩
/-- 'make([]T, n)' where the size has been reckoned to a number. -/
theorem wpList_make_rd {ops : Array Oper} {rest : List Oper} {o : Oper} {a : Act} {Q : Exit → Act → World → Prop} (hg : o.guard = none) (l c : Operand) (t : TypeId) (hop : o.op = Op.makeSlice t l c)
    (base : Nat) (e : TypeId) (i : TypeInfo) (z : Value) (bytes : Nat) (h1 : P.underlying t = some (.slice e)) (h2 : P.info? e = some i) (h3 : i.zero = some z) (h4 : i.size = 1) (hby : i.bytes = bytes) (hz : z.cells = #[z])
    (L : Int) (hl : a.eval l = .int .i64 L) (hc : a.eval c = .int .i64 L) (h0 : 0 ≤ L) (b2 : bytes * L.toNat ≤ 281474976710656) (b3 : L.toNat ≤ maxLen) (b4 : base ≤ w.heap.size)
    (hK : ∀ w', w'.ownsRow base e 1 (.slice (some ⟨w.heap.size, 0, none⟩) L.toNat L.toNat) L.toNat (List.replicate L.toNat z) → w.grownBy w' none → wpList P ops Q rest (a.put o.dst (.slice (some ⟨w.heap.size, 0, none⟩) L.toNat L.toNat)) w') :
    wpList P ops Q (o :: rest) a w :=
  wpList_make_full w hg l c t hop base e i z 1 h1 h2 h3 h4 .i64 .i64 L L L.toNat hl hc (by omega) (by omega) (by rw [hby]; exact b2) b3 b4 fun w' r1 r2 => hK w' (by rw [hz, Nat.mul_one, toList_madeCells_one] at r1; exact r1) r2
end
end Go.Proofs.Ytmefbkfapeijgaa
