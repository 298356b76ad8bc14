/- BlockMays returns true for every input, and every argument reads afterwards as it read before. Conditions: none beyond the row's own. -/
import Derived.Test.YtppjiheebpabjaaOpen
import Derived.Test.YtppjiheebpabjaaOpenS
import Derived.Test.YtppjiheebpabjaaFactsBlockMays
import Derived.Test.YtppjiheebpabjaaOpenW
import Derived.Test.YtppjiheebpabjaaShut
import Derived.Test.YtppjiheebpabjaaBmA
import Derived.SizedLaws
import Derived.WalkKit
import Derived.ProofKit
import Derived.OpenShut
import Derived.ShutString
import Derived.ChangeOld
import Derived.Below
namespace Go.Proofs.Ytppjiheebpabjaa.blockMays
open Go.ChangeShapes Go.WideShapes Go.ChangeAt Go.RowKit
open Go.ChangeMaps (open_string shut_string)
set_option linter.unusedVariables false

theorem own : ownKnob Try.prog.godebug = none := ownKnobP
theorem laidOut : laidOutB Try.prog = true := laidOutP

theorem walk (A0 : Nat) (L0 : Int) (l0 : List Mz) (N0 : Nat) (o0 : Value) (a1 : Bool) (a2 : Option Addr) (len2 cap2 : Nat) (z2 : List Int) (a3 : Int) (a4_0 : Int) (a4_1 : Int) (a4_2 : Int) (a4_3 : Int) (a4_4 : Int) (a4_5 : Int) (a5 : Int) (a6 : Int) (w : World) (wA0 : A0 < 4294967296) (wL0 : (Lit.int .i64 L0).wf = true) (wl0 : l0.length = N0) (wN0 : N0 ≤ maxLen) (wk0 : ∀ m ∈ l0, m.k < 4294967296) (wr0 : LRowR w o0 N0 ⟨false, 6, mzs l0⟩) (w2 : RowIn .i64 w a2 len2 cap2 z2) (hz2 : len2 * 8 ≤ 140737488351232) (w3 : (Lit.int .i64 a3).wf = true) (w4_0 : (Lit.int .i64 a4_0).wf = true) (w4_1 : (Lit.int .i64 a4_1).wf = true) (w4_2 : (Lit.int .i64 a4_2).wf = true) (w4_3 : (Lit.int .i64 a4_3).wf = true) (w4_4 : (Lit.int .u32 a4_4).wf = true) (w4_5 : (Lit.int .i64 a4_5).wf = true) (w5 : (Lit.int .u32 a5).wf = true) (w6 : (Lit.int .i64 a6).wf = true) :
    Calls Try.prog 6 #[.agg #[.int .u32 A0, .int .i64 L0, o0], .bool a1, .slice a2 len2 cap2, .int .i64 a3, .agg #[.int .i64 a4_0, .int .i64 a4_1, .int .i64 a4_2, .int .i64 a4_3, .int .u32 a4_4, .int .i64 a4_5], .int .u32 a5, .int .i64 a6] w fun e w' => e = .returned (.bool true) ∧ Below w.heap.size w w' := by
  obtain ⟨ls, hl, hb, hr⟩ := lrow_ints w2
  have hm : Go.maxLen = 9223372036854775807 := rfl
  obtain ⟨p, rfl, hp⟩ := wf_u32 w5
  obtain ⟨k, rfl, hk⟩ := wf_u32 w4_4
  exact law_of_fnR [(_, N0, ⟨false, 6, mzs l0⟩), (_, len2, ⟨false, 1, isv .i64 ls⟩)] (fun x h => by simp at h; rcases h with rfl | rfl; exact wr0; exact hr.r) rfl (mays15_fn A0 wA0 L0 l0 N0 wl0 (by omega) a1 ls len2 hl hz2 a3 ⟨a4_0, a4_1, a4_2, a4_3, k, a4_5⟩ p a6 hp) fun ρ h => vas_cons (va_block (h 0 _ rfl)) (vas_cons rfl (vas_cons (h 1 _ rfl) (vas_cons rfl (vas_cons (va_micro ρ _ _ _ _ _ _) (vas_cons rfl (vas_cons rfl (vas_nil ρ)))))))

set_option maxRecDepth 100000 in
theorem lifted (os : Os) (started : os.Started) (H : Type) (enc : TypeId × Value → H) :
    ReturnsInHanded {} Try.checked os 6 .any (Rows.blockMaysSpec.pre6 enc Try.prog Try.f6 Rows.blockMaysRow.domain false) (Rows.blockMaysSpec.post enc Try.prog Try.f6 false true false false) := by
  refine returnsInHanded_of_change_sized (C := Try.checked) own started (by kernel_rfl) Try.func6
    (ChangeSpec.witness6 (enc := enc) (C := Try.checked) false ⟨#[], #[.agg #[.int .u32 0, .int .i64 0, .slice none 0 0], .bool false, .slice none 0 0, .int .i64 0, .agg #[.int .i64 0, .int .i64 0, .int .i64 0, .int .i64 0, .int .u32 0, .int .i64 0], .int .u32 0, .int .i64 0], []⟩ 8 (by kernel_rfl) (by kernel_rfl) (by kernel_rfl) (by kernel_rfl)) ?_
  intro W base args ds gs before hval0 hW hcnd hsz0 _
  have hsz : (DataW.weightsEach Try.prog (Try.f6.params.toList ++ Rows.blockMaysSpec.plain.varTypes Try.prog) (ds ++ gs)).all (· ≤ reachBytes) = true := hsz0
  clear hsz0
  have hval : ∀ (j : Nat) t v, Try.f6.params[j]? = some t → args[j]? = some v → Value.okWide Try.prog W .any base t v := hval0
  have hW' := hW
  obtain ⟨p, q, hA0, hV, rfl, hfz, hnd⟩ := hW
  have hA : DataW.TrodAll enc Try.prog W 0 (fun _ => true) true Try.f6.params.toList args.toList ds p := hA0
  rw [Try.params6] at hA hval hsz
  obtain ⟨v0, vs0, d0, ds0, p0, q0, hargs, rfl, rfl, h0, r0⟩ := trodAll_cons hA
  obtain ⟨v1, vs1, d1, ds1, p1, q1, rfl, rfl, rfl, h1, r1⟩ := trodAll_cons r0
  obtain ⟨v2, vs2, d2, ds2, p2, q2, rfl, rfl, rfl, h2, r2⟩ := trodAll_cons r1
  obtain ⟨v3, vs3, d3, ds3, p3, q3, rfl, rfl, rfl, h3, r3⟩ := trodAll_cons r2
  obtain ⟨v4, vs4, d4, ds4, p4, q4, rfl, rfl, rfl, h4, r4⟩ := trodAll_cons r3
  obtain ⟨v5, vs5, d5, ds5, p5, q5, rfl, rfl, rfl, h5, r5⟩ := trodAll_cons r4
  obtain ⟨v6, vs6, d6, ds6, p6, q6, rfl, rfl, rfl, h6, r6⟩ := trodAll_cons r5
  obtain ⟨rfl, rfl, rfl⟩ := trodAll_nil r6
  obtain rfl : args = #[v0, v1, v2, v3, v4, v5, v6] := by cases args; simp_all
  obtain ⟨rfl, rfl⟩ := trodVars_none hV
  have k0 := h0
  have lt0 : ∀ x ∈ p0, x.block < W.heap.size := by obtain ⟨m, hm⟩ := k0; exact DataW.trod_lt m _ _ _ hm
  obtain ⟨A0, L0, l0, N0, o0, rfl, wA0, wL0, wl0, wN0, wk0, wr0⟩ := openBlock Try.underlying35 (by kernel_rfl) (by kernel_rfl) Try.underlying26 Try.underlying3 Try.underlying33 Try.underlying39 (by kernel_rfl) (by kernel_rfl) Try.underlying3 Try.underlying3 Try.underlying3 Try.underlying3 Try.underlying26 Try.underlying3 (hval 0 35 v0 rfl rfl) h0
  obtain ⟨a1, rfl, rfl, rfl⟩ := open_bool Try.underlying4 (hval 1 4 v1 rfl rfl) h1
  obtain ⟨a2, len2, cap2, rfl⟩ := okWide_slice Try.underlying22 (hval 2 22 v2 rfl rfl)
  have k2 := h2
  have lt2 : ∀ x ∈ p2, x.block < W.heap.size := by obtain ⟨m, hm⟩ := k2; exact DataW.trod_lt m _ _ _ hm
  obtain ⟨z2, w2⟩ : ∃ zs, RowIn .i64 W a2 len2 cap2 zs := by
    obtain ⟨fuel, hf⟩ := h2
    rcases open_ints Try.underlying22 Try.underlying3 (by kernel_rfl) hf with ⟨hcs, _⟩ | ⟨x, l, c, zs, hcs, _, hl, hm, hz, _, hcell, hwz⟩
    · simp [Value.cells] at hcs
      obtain ⟨rfl, rfl, rfl⟩ := hcs
      exact ⟨[], .inl ⟨rfl, rfl, rfl, rfl⟩⟩
    · simp [Value.cells] at hcs
      obtain ⟨rfl, rfl, rfl⟩ := hcs
      exact ⟨zs, .inr ⟨_, rfl, hl, hm, by simpa using hz, hcell, hwz⟩⟩
  have hz2 : len2 * 8 ≤ 140737488351232 := by
    obtain ⟨fuel, hf⟩ := h2
    rcases open_ints Try.underlying22 Try.underlying3 (by kernel_rfl) hf with ⟨hcs, _⟩ | ⟨x, l, c, zs, hcs, _, hl, hm, hz, hx, _, _⟩
    · simp [Value.cells] at hcs
      obtain ⟨rfl, rfl, rfl⟩ := hcs
      omega
    · simp [Value.cells] at hcs
      obtain ⟨rfl, rfl, rfl⟩ := hcs
      have hd := congrArg Prod.fst hx
      have := sized_slice hsz (j := 2) (t := 22) (e := 3) rfl (congrArg some hd) Try.underlying22
      rw [show Try.prog.bytesOf 3 = 8 by kernel_rfl] at this
      simp only [lits, List.length_map, List.length_take, List.length_drop, reachBytes] at this
      simp at hz
      omega
  obtain ⟨a3, rfl, rfl, rfl, w3⟩ := open_int Try.underlying3 (hval 3 3 v3 rfl rfl) h3
  have k4 := h4
  have lt4 : ∀ x ∈ p4, x.block < W.heap.size := by obtain ⟨m, hm⟩ := k4; exact DataW.trod_lt m _ _ _ hm
  obtain ⟨c4_0, c4_1, c4_2, c4_3, c4_4, c4_5, y4_0, y4_1, y4_2, y4_3, y4_4, y4_5, n4, rfl, t4_0, t4_1, t4_2, t4_3, t4_4, t4_5⟩ := openAgg6 Try.underlying39 (by kernel_rfl) (by kernel_rfl) (hval 4 39 v4 rfl rfl) h4
  obtain ⟨a4_0, rfl, w4_0⟩ := int_field Try.underlying3 t4_0
  obtain ⟨a4_1, rfl, w4_1⟩ := int_field Try.underlying3 t4_1
  obtain ⟨a4_2, rfl, w4_2⟩ := int_field Try.underlying3 t4_2
  obtain ⟨a4_3, rfl, w4_3⟩ := int_field Try.underlying3 t4_3
  obtain ⟨a4_4, rfl, w4_4⟩ := int_field Try.underlying26 t4_4
  obtain ⟨a4_5, rfl, w4_5⟩ := int_field Try.underlying3 t4_5
  obtain ⟨a5, rfl, rfl, rfl, w5⟩ := open_int Try.underlying26 (hval 5 26 v5 rfl rfl) h5
  obtain ⟨a6, rfl, rfl, rfl, w6⟩ := open_int Try.underlying3 (hval 6 3 v6 rfl rfl) h6
  clear hA0 hval0
  refine (walk A0 L0 l0 N0 o0 a1 a2 len2 cap2 z2 a3 a4_0 a4_1 a4_2 a4_3 a4_4 a4_5 a5 a6 W wA0 wL0 wl0 wN0 wk0 wr0 w2 hz2 w3 w4_0 w4_1 w4_2 w4_3 w4_4 w4_5 w5 w6).mono fun e W' ⟨he, bel⟩ => ?_
  subst he
  exact ⟨_, rfl, _, _, _, [], _, [], hW', trodAll_mk1 (shut_bool Try.underlying4 _), (trodAll_cons_mk (Below.trod laidOut (by kernel_rfl) (of_decide_eq_true (by kernel_rfl)) k0 bel lt0) (trodAll_cons_mk (shut_bool Try.underlying4 _) (trodAll_cons_mk (Below.trod laidOut (by kernel_rfl) (of_decide_eq_true (by kernel_rfl)) k2 bel lt2) (trodAll_cons_mk (shut_int Try.underlying3 w3) (trodAll_cons_mk (Below.trod laidOut (by kernel_rfl) (of_decide_eq_true (by kernel_rfl)) k4 bel lt4) (trodAll_cons_mk (shut_int Try.underlying26 w5) (trodAll_cons_mk (shut_int Try.underlying3 w6) trodAll_mk0))))))), rfl, bel.frame _, fun h => by cases h⟩

theorem over : Rows.blockMaysRow.holds Try.pinned (OpenSpec.ofChange Rows.blockMaysSpec) :=
  OpenClaim.holds_of_wide 6 Try.f6 rfl rfl rfl rfl rfl rfl rfl ⟨rfl, rfl, rfl, rfl, rfl⟩ rfl rfl rfl rfl rfl named Try.func6 closed
    (of_decide_eq_true (by kernel_rfl)) (by unfold Func.isWrapper; first | (rw [if_pos (by decide +kernel)]; kernel_rfl) | (rw [if_neg (by decide +kernel)]; exact ⟨rfl, rfl⟩))
    (fun os started H enc _ => lifted os started H enc)

/-- The statement. -/
theorem proved : Rows.BlockMaysSaid := over
#print axioms proved
end Go.Proofs.Ytppjiheebpabjaa.blockMays
