/- A processor, handed over by value, opened: a struct of an array of 16 words, a word, an array of 8 words. -/
import Derived.Test.YtckdamhnmcmbbaaOpenS
import Derived.Test.YtckdamhnmcmbbaaCpuD
namespace Go.Proofs.Ytckdamhnmcmbbaa
open Go.Joins Go.ChangeShapes Go.WideShapes Go.RowKit Go.Deep
set_option linter.unusedVariables false
section
variable {H : Type} {enc : TypeId × Value → H} {P : Program} {w : World} {base : Nat} {spare : Nat → Bool} {held : Bool}
theorem arrInts {k : IntKind} {n fuel : Nat} {e t : TypeId} {cs : List Value} {x : DataW H × List MemPlace} (ht : P.underlying t = some (.array n e)) (he : P.underlying e = some (.int k)) (hce : P.cellsOf e = 1) (hct : P.cellsOf t = n)
    (h : DataW.trod enc P w base spare held fuel t cs = some x) : ∃ ns : List Int, ns.length = n ∧ cs = ns.map (Value.int k) ∧ ∀ m ∈ ns, (Lit.int k m).wf = true := by
  obtain ⟨xs, m, _, _, hl, hn, hg⟩ := DataW.trod_array ht h
  rw [hct] at hl
  rw [hce] at hg
  have key : ∀ i, ∃ z : Int, i < n → cs[i]? = some (.int k z) ∧ (Lit.int k z).wf = true := fun i => by
    by_cases hi : i < n
    · have h1 := hg i hi
      rw [List.getElem?_eq_getElem (by omega)] at h1
      have e1 : (cs.drop (i * 1)).take 1 = [cs[i]'(by omega)] := by
        rw [Nat.mul_one, List.drop_eq_getElem_cons (by omega)]; rfl
      rw [e1] at h1
      obtain ⟨z, h2, h3⟩ := int_field he h1
      exact ⟨z, fun _ => ⟨by rw [List.getElem?_eq_getElem (by omega), h2], h3⟩⟩
    · exact ⟨0, fun h => absurd h hi⟩
  obtain ⟨f, hf⟩ := Classical.axiomOfChoice key
  refine ⟨(List.range n).map f, by simp, ?_, fun z hz => ?_⟩
  · apply List.ext_getElem?
    intro i
    by_cases hi : i < n
    · rw [(hf i hi).1]; simp [hi]
    · rw [List.getElem?_eq_none (by omega), List.getElem?_eq_none (by simp; omega)]
  · obtain ⟨i, hi, rfl⟩ := List.mem_map.1 hz
    exact (hf i (by simpa using hi)).2
theorem ints_words {ns : List Int} (h : ∀ m ∈ ns, (Lit.int .u32 m).wf = true) : ∃ xs : List Nat, xs.length = ns.length ∧ ns.map (Value.int .u32) = xs.map (fun (y : Nat) => Value.int .u32 y) ∧ ∀ y ∈ xs, y < 4294967296 := by
  have hb : ∀ n ∈ ns, 0 ≤ n ∧ n < 4294967296 := fun n hn => by
    obtain ⟨m, rfl, hm⟩ := wf_u32 (h n hn)
    omega
  refine ⟨ns.map Int.toNat, by simp, ?_, fun y hy => ?_⟩
  · rw [List.map_map]
    refine List.map_congr_left fun n hn => ?_
    have := hb n hn
    simp only [Function.comp]
    rw [Int.toNat_of_nonneg this.1]
  · obtain ⟨n, hn, rfl⟩ := List.mem_map.1 hy
    have := hb n hn; omega
def cpuV (x : List Nat) (pc : Nat) (c : List Nat) : Array Value := (x.map (fun (y : Nat) => Value.int .u32 y) ++ (Value.int .u32 pc :: c.map (fun (y : Nat) => Value.int .u32 y))).toArray
theorem openCpu {r : Reach} {b0 : Nat} {t e0 e2 : TypeId} {f0 f1 f2 : Field} {v : Value} {d : DataW H} {p : List MemPlace} (hs : P.underlying t = some (.struct #[f0, f1, f2])) (o0 : f0.offset = 0) (o1 : f1.offset = 16) (o2 : f2.offset = 17)
    (t0 : P.underlying f0.type = some (.array 16 e0)) (t1 : P.underlying f1.type = some (.int .u32)) (t2 : P.underlying f2.type = some (.array 8 e2)) (u0 : P.underlying e0 = some (.int .u32)) (u2 : P.underlying e2 = some (.int .u32))
    (hc : P.cellsOf t = 25 ∧ P.cellsOf f0.type = 16 ∧ P.cellsOf f1.type = 1 ∧ P.cellsOf f2.type = 8 ∧ P.cellsOf e0 = 1 ∧ P.cellsOf e2 = 1) (hv : Value.okWide P w r b0 t v) (h : DataW.Trod enc P w base spare held t v d p) :
    ∃ (x : List Nat) (pc : Nat) (c : List Nat), v = .agg (cpuV x pc c) ∧ x.length = 16 ∧ c.length = 8 ∧ (∀ y ∈ x, y < 4294967296) ∧ pc < 4294967296 ∧ ∀ y ∈ c, y < 4294967296 := by
  obtain ⟨cs, rfl, hsz⟩ := okWide_struct hs hv
  obtain ⟨c1, c2, c3, c4, c5, c6⟩ := hc
  obtain ⟨fuel, hf⟩ := h
  obtain ⟨xs, n, _, hx, hcl, hlen, hg⟩ := DataW.trod_struct hs hf
  have hl : cs.toList.length = 25 := by rw [← c1, ← hsz]; simp
  have hlen : xs.length = 3 := hlen
  have g0 := hg 0 f0 rfl
  have g1 := hg 1 f1 rfl
  have g2 := hg 2 f2 rfl
  rw [List.getElem?_eq_getElem (by omega), o0, c2] at g0
  rw [List.getElem?_eq_getElem (by omega), o1, c3] at g1
  rw [List.getElem?_eq_getElem (by omega), o2, c4] at g2
  obtain ⟨n0, l0, e0', w0⟩ := arrInts t0 u0 c5 c2 g0
  obtain ⟨n2, l2, e2', w2⟩ := arrInts t2 u2 c6 c4 g2
  have hlt : 16 < cs.toList.length := by omega
  have e1 : ((Value.agg cs).cells.toList.drop 16).take 1 = [cs.toList[16]] := by
    show (cs.toList.drop 16).take 1 = _
    rw [List.drop_eq_getElem_cons hlt]; rfl
  rw [e1] at g1
  obtain ⟨z, z1, z2⟩ := int_field t1 g1
  obtain ⟨pc, rfl, hpc⟩ := wf_u32 z2
  obtain ⟨x, x1, x2, x3⟩ := ints_words w0
  obtain ⟨c, y1, y2, y3⟩ := ints_words w2
  refine ⟨x, pc, c, ?_, by omega, by omega, x3, hpc, y3⟩
  congr 1
  apply Array.ext'
  unfold cpuV
  have a0 : cs.toList.take 16 = x.map (fun (y : Nat) => Value.int .u32 y) := by rw [← x2, ← e0']; rfl
  have a2 : cs.toList.drop 17 = c.map (fun (y : Nat) => Value.int .u32 y) := by
    rw [← y2, ← e2']
    show _ = (cs.toList.drop 17).take 8
    rw [List.take_of_length_le (by simp; simp at hl; omega)]
  rw [← a0, ← a2, ← z1]
  show cs.toList = cs.toList.take 16 ++ (cs.toList[16] :: cs.toList.drop 17)
  rw [← List.drop_eq_getElem_cons hlt, List.take_append_drop]
end
theorem va_cpu (ρ : Nm) (x : List Nat) (pc : Nat) (c : List Nat) : VA ρ (.agg (cpuC x pc c)) (.agg (cpuV x pc c)) := by
  have hw : ∀ l : List Nat, VSs ρ (wsv l) (l.map (fun (y : Nat) => Value.int .u32 y)) := fun l => ⟨by simp, fun k s hs => by
    unfold wsv at hs
    rw [List.getElem?_map] at hs
    cases e : l[k]? with
    | none => rw [e] at hs; cases hs
    | some y =>
      rw [e] at hs
      injection hs with hs; subst hs
      exact ⟨_, by rw [List.getElem?_map, e]; rfl, rfl⟩⟩
  have happ : ∀ (a a' : List SV) (b b' : List Value), VSs ρ a b → VSs ρ a' b' → VSs ρ (a ++ a') (b ++ b') := fun a a' b b' h h' => ⟨by simp [h.1, h'.1], fun k s hs => by
    by_cases hk : k < a.length
    · rw [List.getElem?_append_left hk] at hs
      rw [List.getElem?_append_left (by rw [← h.1]; exact hk)]; exact h.2 k s hs
    · rw [List.getElem?_append_right (by omega)] at hs
      rw [List.getElem?_append_right (by rw [← h.1]; omega), ← h.1]; exact h'.2 _ s hs⟩
  refine ⟨cpuV x pc c, rfl, ?_⟩
  exact happ _ _ _ _ (hw x) (happ [.int .u32 pc] _ [.int .u32 pc] _ ⟨rfl, fun k s hs => by
    cases k with
    | zero => injection hs with hs; subst hs; exact ⟨_, rfl, rfl⟩
    | succ k => simp at hs⟩ (hw c))
end Go.Proofs.Ytckdamhnmcmbbaa
