/- CacheTells returns true for every input, and every argument reads afterwards as it read before. Conditions: none beyond the row's own. -/
import Derived.Test.YtcaddlighhiepaaOpen
import Derived.Test.YtcaddlighhiepaaOpenS
import Derived.Test.YtcaddlighhiepaaFactsCacheTells
import Derived.Test.YtcaddlighhiepaaOpenW
import Derived.Test.YtcaddlighhiepaaOpenB
import Derived.Test.YtcaddlighhiepaaShut
import Derived.Test.YtcaddlighhiepaaCcT
import Derived.SizedLaws
import Derived.WalkKit
import Derived.ProofKit
import Derived.OpenShut
import Derived.ShutString
import Derived.ChangeOld
import Derived.Below
namespace Go.Proofs.Ytcaddlighhiepaa.cacheTells
open Go.ChangeShapes Go.WideShapes Go.ChangeAt Go.RowKit
open Go.ChangeMaps (open_string shut_string)
set_option linter.unusedVariables false

theorem own : ownKnob Try.prog.godebug = none := ownKnobP
theorem laidOut : laidOutB Try.prog = true := laidOutP

theorem walk (l0 : List Bk) (N0 : Nat) (o0 : Value) (a1 : Bool) (a2 : Option Addr) (len2 cap2 : Nat) (z2 : List Int) (a3 : Option Addr) (len3 cap3 : Nat) (z3 : List Int) (a4 : Int) (A5 : Nat) (L5 : Int) (l5 : List Mz) (N5 : Nat) (o5 : Value) (a6 : Int) (w : World) (wl0 : l0.length = N0) (wN0 : N0 ≤ maxLen) (wk0 : ∀ b ∈ l0, b.A < 4294967296 ∧ ∀ m ∈ b.l, m.k < 4294967296) (wr0 : LRowZ w o0 N0 ⟨false, 3, bks l0⟩) (w2 : RowIn .i64 w a2 len2 cap2 z2) (hz2 : len2 * 8 ≤ 140737488351232) (w3 : RowIn .i64 w a3 len3 cap3 z3) (hz3 : len3 * 8 ≤ 140737488351232) (w4 : (Lit.int .u32 a4).wf = true) (wA5 : A5 < 4294967296) (wL5 : (Lit.int .i64 L5).wf = true) (wl5 : l5.length = N5) (wN5 : N5 ≤ maxLen) (wk5 : ∀ m ∈ l5, m.k < 4294967296) (wr5 : LRowR w o5 N5 ⟨false, 6, mzs l5⟩) (w6 : (Lit.int .i64 a6).wf = true) :
    Calls Try.prog 3 #[o0, .bool a1, .slice a2 len2 cap2, .slice a3 len3 cap3, .int .u32 a4, .agg #[.int .u32 A5, .int .i64 L5, o5], .int .i64 a6] w fun e w' => e = .returned (.bool true) ∧ Below w.heap.size w w' := by
  have hm : Go.maxLen = 9223372036854775807 := rfl
  obtain ⟨ls, hl, hb, hr2⟩ := lrow_ints w2
  obtain ⟨acs, ha, hb3, hr3⟩ := lrow_ints w3
  obtain ⟨x, rfl, hx⟩ := wf_u32 w4
  subst wl5
  have hz := lfz_of_row (mzs_flat l5) wr5
  cases a1 with
  | true => exact law_of_fnZ [(_, N0, ⟨false, 3, bks l0⟩), (_, len2, ⟨false, 1, isv .i64 ls⟩), (_, len3, ⟨false, 1, isv .i64 acs⟩)] (fun q h => by simp at h; rcases h with rfl | rfl | rfl; exact wr0; exact hr2.r.z; exact hr3.r.z) rfl (tellsR_fn l0 N0 wl0 (by omega) wk0 ls acs len2 len3 hl (by omega) ha x ⟨A5, L5, l5⟩ ⟨wA5, wk5⟩ (by show l5.length ≤ _; omega) a6) fun ρ hf h => vas_cons (h 0 _ rfl) (vas_cons rfl (vas_cons (h 1 _ rfl) (vas_cons (h 2 _ rfl) (vas_cons rfl (vas_cons (va_blockZ (b := ⟨A5, L5, l5⟩) (hz ρ hf)) (vas_cons rfl (vas_nil ρ)))))))
  | false => exact law_of_fnZ [(_, N0, ⟨false, 3, bks l0⟩), (_, len2, ⟨false, 1, isv .i64 ls⟩), (_, len3, ⟨false, 1, isv .i64 acs⟩)] (fun q h => by simp at h; rcases h with rfl | rfl | rfl; exact wr0; exact hr2.r.z; exact hr3.r.z) rfl (tellsM_fn l0 N0 wl0 (by omega) ls acs len2 len3 hl (by omega) ha x hx ⟨A5, L5, l5⟩ (by show l5.length ≤ _; omega) a6) fun ρ hf h => vas_cons (h 0 _ rfl) (vas_cons rfl (vas_cons (h 1 _ rfl) (vas_cons (h 2 _ rfl) (vas_cons rfl (vas_cons (va_blockZ (b := ⟨A5, L5, l5⟩) (hz ρ hf)) (vas_cons rfl (vas_nil ρ)))))))

set_option maxRecDepth 100000 in
theorem lifted (os : Os) (started : os.Started) (H : Type) (enc : TypeId × Value → H) :
    ReturnsInHanded {} Try.checked os 3 .any (Rows.cacheTellsSpec.pre6 enc Try.prog Try.f3 Rows.cacheTellsRow.domain false) (Rows.cacheTellsSpec.post enc Try.prog Try.f3 false true false false) := by
  refine returnsInHanded_of_change_sized (C := Try.checked) own started (by kernel_rfl) Try.func3
    (ChangeSpec.witness6 (enc := enc) (C := Try.checked) false ⟨#[], #[.slice none 0 0, .bool false, .slice none 0 0, .slice none 0 0, .int .u32 0, .agg #[.int .u32 0, .int .i64 0, .slice none 0 0], .int .i64 0], []⟩ 8 (by kernel_rfl) (by kernel_rfl) (by kernel_rfl) (by kernel_rfl)) ?_
  intro W base args ds gs before hval0 hW hcnd hsz0 _
  have hsz : (DataW.weightsEach Try.prog (Try.f3.params.toList ++ Rows.cacheTellsSpec.plain.varTypes Try.prog) (ds ++ gs)).all (· ≤ reachBytes) = true := hsz0
  clear hsz0
  have hval : ∀ (j : Nat) t v, Try.f3.params[j]? = some t → args[j]? = some v → Value.okWide Try.prog W .any base t v := hval0
  have hW' := hW
  obtain ⟨p, q, hA0, hV, rfl, hfz, hnd⟩ := hW
  have hA : DataW.TrodAll enc Try.prog W 0 (fun _ => true) true Try.f3.params.toList args.toList ds p := hA0
  rw [Try.params3] at hA hval hsz
  obtain ⟨v0, vs0, d0, ds0, p0, q0, hargs, rfl, rfl, h0, r0⟩ := trodAll_cons hA
  obtain ⟨v1, vs1, d1, ds1, p1, q1, rfl, rfl, rfl, h1, r1⟩ := trodAll_cons r0
  obtain ⟨v2, vs2, d2, ds2, p2, q2, rfl, rfl, rfl, h2, r2⟩ := trodAll_cons r1
  obtain ⟨v3, vs3, d3, ds3, p3, q3, rfl, rfl, rfl, h3, r3⟩ := trodAll_cons r2
  obtain ⟨v4, vs4, d4, ds4, p4, q4, rfl, rfl, rfl, h4, r4⟩ := trodAll_cons r3
  obtain ⟨v5, vs5, d5, ds5, p5, q5, rfl, rfl, rfl, h5, r5⟩ := trodAll_cons r4
  obtain ⟨v6, vs6, d6, ds6, p6, q6, rfl, rfl, rfl, h6, r6⟩ := trodAll_cons r5
  obtain ⟨rfl, rfl, rfl⟩ := trodAll_nil r6
  obtain rfl : args = #[v0, v1, v2, v3, v4, v5, v6] := by cases args; simp_all
  obtain ⟨rfl, rfl⟩ := trodVars_none hV
  obtain ⟨a0, len0, cap0, rfl⟩ := okWide_slice Try.underlying22 (hval 0 22 v0 rfl rfl)
  have k0 := h0
  have lt0 : ∀ x ∈ p0, x.block < W.heap.size := by obtain ⟨m, hm⟩ := k0; exact DataW.trod_lt m _ _ _ hm
  generalize hgo0 : Value.slice a0 len0 cap0 = o0 at *
  obtain ⟨l0, N0, wl0, wN0, wk0, wr0⟩ : ∃ (l : List Bk) (N : Nat), l.length = N ∧ N ≤ maxLen ∧ (∀ b ∈ l, b.A < 4294967296 ∧ ∀ m ∈ b.l, m.k < 4294967296) ∧ LRowZ W o0 N ⟨false, 3, bks l⟩ := by
    obtain ⟨fuel, hf⟩ := h0
    subst hgo0
    exact openBlks (v := .slice a0 len0 cap0) Try.underlying22 Try.underlying27 (by kernel_rfl) (by kernel_rfl) Try.underlying24 Try.underlying3 Try.underlying25 Try.underlying59 (by kernel_rfl) (by kernel_rfl) Try.underlying3 Try.underlying3 Try.underlying3 Try.underlying3 Try.underlying24 Try.underlying3 hf
  obtain ⟨a1, rfl, rfl, rfl⟩ := open_bool Try.underlying4 (hval 1 4 v1 rfl rfl) h1
  obtain ⟨a2, len2, cap2, rfl⟩ := okWide_slice Try.underlying23 (hval 2 23 v2 rfl rfl)
  have k2 := h2
  have lt2 : ∀ x ∈ p2, x.block < W.heap.size := by obtain ⟨m, hm⟩ := k2; exact DataW.trod_lt m _ _ _ hm
  obtain ⟨z2, w2⟩ : ∃ zs, RowIn .i64 W a2 len2 cap2 zs := by
    obtain ⟨fuel, hf⟩ := h2
    rcases open_ints Try.underlying23 Try.underlying3 (by kernel_rfl) hf with ⟨hcs, _⟩ | ⟨x, l, c, zs, hcs, _, hl, hm, hz, _, hcell, hwz⟩
    · simp [Value.cells] at hcs
      obtain ⟨rfl, rfl, rfl⟩ := hcs
      exact ⟨[], .inl ⟨rfl, rfl, rfl, rfl⟩⟩
    · simp [Value.cells] at hcs
      obtain ⟨rfl, rfl, rfl⟩ := hcs
      exact ⟨zs, .inr ⟨_, rfl, hl, hm, by simpa using hz, hcell, hwz⟩⟩
  have hz2 : len2 * 8 ≤ 140737488351232 := by
    obtain ⟨fuel, hf⟩ := h2
    rcases open_ints Try.underlying23 Try.underlying3 (by kernel_rfl) hf with ⟨hcs, _⟩ | ⟨x, l, c, zs, hcs, _, hl, hm, hz, hx, _, _⟩
    · simp [Value.cells] at hcs
      obtain ⟨rfl, rfl, rfl⟩ := hcs
      omega
    · simp [Value.cells] at hcs
      obtain ⟨rfl, rfl, rfl⟩ := hcs
      have hd := congrArg Prod.fst hx
      have := sized_slice hsz (j := 2) (t := 23) (e := 3) rfl (congrArg some hd) Try.underlying23
      rw [show Try.prog.bytesOf 3 = 8 by kernel_rfl] at this
      simp only [lits, List.length_map, List.length_take, List.length_drop, reachBytes] at this
      simp at hz
      omega
  obtain ⟨a3, len3, cap3, rfl⟩ := okWide_slice Try.underlying23 (hval 3 23 v3 rfl rfl)
  have k3 := h3
  have lt3 : ∀ x ∈ p3, x.block < W.heap.size := by obtain ⟨m, hm⟩ := k3; exact DataW.trod_lt m _ _ _ hm
  obtain ⟨z3, w3⟩ : ∃ zs, RowIn .i64 W a3 len3 cap3 zs := by
    obtain ⟨fuel, hf⟩ := h3
    rcases open_ints Try.underlying23 Try.underlying3 (by kernel_rfl) hf with ⟨hcs, _⟩ | ⟨x, l, c, zs, hcs, _, hl, hm, hz, _, hcell, hwz⟩
    · simp [Value.cells] at hcs
      obtain ⟨rfl, rfl, rfl⟩ := hcs
      exact ⟨[], .inl ⟨rfl, rfl, rfl, rfl⟩⟩
    · simp [Value.cells] at hcs
      obtain ⟨rfl, rfl, rfl⟩ := hcs
      exact ⟨zs, .inr ⟨_, rfl, hl, hm, by simpa using hz, hcell, hwz⟩⟩
  have hz3 : len3 * 8 ≤ 140737488351232 := by
    obtain ⟨fuel, hf⟩ := h3
    rcases open_ints Try.underlying23 Try.underlying3 (by kernel_rfl) hf with ⟨hcs, _⟩ | ⟨x, l, c, zs, hcs, _, hl, hm, hz, hx, _, _⟩
    · simp [Value.cells] at hcs
      obtain ⟨rfl, rfl, rfl⟩ := hcs
      omega
    · simp [Value.cells] at hcs
      obtain ⟨rfl, rfl, rfl⟩ := hcs
      have hd := congrArg Prod.fst hx
      have := sized_slice hsz (j := 3) (t := 23) (e := 3) rfl (congrArg some hd) Try.underlying23
      rw [show Try.prog.bytesOf 3 = 8 by kernel_rfl] at this
      simp only [lits, List.length_map, List.length_take, List.length_drop, reachBytes] at this
      simp at hz
      omega
  obtain ⟨a4, rfl, rfl, rfl, w4⟩ := open_int Try.underlying24 (hval 4 24 v4 rfl rfl) h4
  have k5 := h5
  have lt5 : ∀ x ∈ p5, x.block < W.heap.size := by obtain ⟨m, hm⟩ := k5; exact DataW.trod_lt m _ _ _ hm
  obtain ⟨A5, L5, l5, N5, o5, rfl, wA5, wL5, wl5, wN5, wk5, wr5⟩ := openBlock Try.underlying27 (by kernel_rfl) (by kernel_rfl) Try.underlying24 Try.underlying3 Try.underlying25 Try.underlying59 (by kernel_rfl) (by kernel_rfl) Try.underlying3 Try.underlying3 Try.underlying3 Try.underlying3 Try.underlying24 Try.underlying3 (hval 5 27 v5 rfl rfl) h5
  obtain ⟨a6, rfl, rfl, rfl, w6⟩ := open_int Try.underlying3 (hval 6 3 v6 rfl rfl) h6
  clear hA0 hval0
  refine (walk l0 N0 o0 a1 a2 len2 cap2 z2 a3 len3 cap3 z3 a4 A5 L5 l5 N5 o5 a6 W wl0 wN0 wk0 wr0 w2 hz2 w3 hz3 w4 wA5 wL5 wl5 wN5 wk5 wr5 w6).mono fun e W' ⟨he, bel⟩ => ?_
  subst he
  exact ⟨_, rfl, _, _, _, [], _, [], hW', trodAll_mk1 (shut_bool Try.underlying4 _), (trodAll_cons_mk (Below.trod laidOut (by kernel_rfl) (of_decide_eq_true (by kernel_rfl)) k0 bel lt0) (trodAll_cons_mk (shut_bool Try.underlying4 _) (trodAll_cons_mk (Below.trod laidOut (by kernel_rfl) (of_decide_eq_true (by kernel_rfl)) k2 bel lt2) (trodAll_cons_mk (Below.trod laidOut (by kernel_rfl) (of_decide_eq_true (by kernel_rfl)) k3 bel lt3) (trodAll_cons_mk (shut_int Try.underlying24 w4) (trodAll_cons_mk (Below.trod laidOut (by kernel_rfl) (of_decide_eq_true (by kernel_rfl)) k5 bel lt5) (trodAll_cons_mk (shut_int Try.underlying3 w6) trodAll_mk0))))))), rfl, bel.frame _, fun h => by cases h⟩

theorem over : Rows.cacheTellsRow.holds Try.pinned (OpenSpec.ofChange Rows.cacheTellsSpec) :=
  OpenClaim.holds_of_wide 3 Try.f3 rfl rfl rfl rfl rfl rfl rfl ⟨rfl, rfl, rfl, rfl, rfl⟩ rfl rfl rfl rfl rfl named Try.func3 closed
    (of_decide_eq_true (by kernel_rfl)) (by unfold Func.isWrapper; first | (rw [if_pos (by decide +kernel)]; kernel_rfl) | (rw [if_neg (by decide +kernel)]; exact ⟨rfl, rfl⟩))
    (fun os started H enc _ => lifted os started H enc)

/-- The statement. -/
theorem proved : Rows.CacheTellsSaid := over
#print axioms proved
end Go.Proofs.Ytcaddlighhiepaa.cacheTells
