/- Exec of what leaves the memory alone, in kernel mode. -/
import Derived.Test.YtckdamhnmcmbbaaExeA
namespace Go.Proofs.Ytckdamhnmcmbbaa
open Go Go.RowKit
set_option linter.unusedSimpArgs false
set_option linter.unusedVariables false

theorem allKnown_append {l l' : List SV} (h : allKnown l = true) (h' : allKnown l' = true) : allKnown (l ++ l') = true := by
  induction l with
  | nil => exact h'
  | cons s l ih => cases s <;> first | exact ih h | cases h
theorem cpu_known (x : List Nat) (pc : Nat) (c : List Nat) : allKnown (cpuC x pc c) = true := allKnown_append (wsv_known x) (wsv_known c)
set_option maxHeartbeats 4000000 in
set_option maxRecDepth 100000 in
theorem exec_exe (x : List Nat) (pc : Nat) (c : List Nat) (xs : List Nat) (n w : Nat) (o a b cc m : Int) (x' : List Nat) (pc' : Nat) (c' : List Nat) (e0 e1 e2 e3 : Int) (hx : x.length = 16) (hc : c.length = 8) (h0 : c.getD 0 0 = 1) (hl : xs.length = n) (hn : n < 4294967296) (hpc : pc < 4294967296) (hld : ld4 n pc = true)
    (hw : xs.getD (pc / 4) 0 = w) (hde : Fn Try.prog 47 [.s (.int .u32 w)] [] (· = ⟨.tup [.agg (iv o a b cc m), .s (.bool true)], [], []⟩)) (hp : privB o = false) (ho : o < 32 ∨ 36 < o)
    (he : Fn Try.prog 52 [.agg (cpuC x pc c), .agg (iv o a b cc m)] [] (· = ⟨.tup [.agg (cpuC x' pc' c'), .agg [.int .i64 e0, .int .i64 e1, .int .i64 e2, .int .u32 e3]], [], []⟩)) (hx' : x'.length = 16) (hc' : c'.length = 8) :
    Fn Try.prog 28 [.agg (cpuC x pc c), .s (.sl 0 0 n)] [⟨false, 1, wsv xs⟩] (· = ⟨.tup [.agg (cpuC x' pc' c'), .s (.sl 1 0 n), .agg [.int .i64 e0, .int .i64 e1, .int .i64 e2, .int .u32 e3]], [], [⟨true, 1, wsv xs⟩]⟩) := by
  have hf := fetch_fn x pc c xs n hx hc (.inr h0) hl hn hpc hld
  rw [hw] at hf
  have hpr := priv_fn o
  rw [hp] at hpr
  have hs : allScal (cpuC x' pc' c') = true := allScal_append (wsv_scal _) (wsv_scal _)
  obtain ⟨x0, x1, x2, x3, x4, x5, x6, x7, x8, x9, x10, x11, x12, x13, x14, x15, rfl⟩ := len16 hx
  obtain ⟨c0, c1, c2, c3, c4, c5, c6, c7, rfl⟩ := len8 hc
  have hcl : (cpuC x' pc' c').length = 25 := by unfold cpuC; simp [hx', hc']
  have hck : allKnown (cpuC x' pc' c') = true := cpu_known _ _ _
  have hsa : ∀ L : List SV, L.length = 25 → setAll L 0 (cpuC x' pc' c') = cpuC x' pc' c' := fun L hL => setAll_all (by rw [hL, hcl])
  generalize cpuC x' pc' c' = C' at *
  refine fn_of_vc mixed tys_ok _ _ Try.func28 (by kernel_rfl) rfl Try.ntmps28 (by rw [Try.results28]) rfl ?_; dsimp only [argTm, argHl, Nat.zero_add, Nat.reduceAdd, List.length_nil, List.length_cons]
  (repeat' ((conv => whnf); first | (refine vcall_det (f := 46) hf [⟨0, 0⟩] [(0, ⟨false, 1, wsv xs⟩)] rfl ⟨rfl, trivial⟩ ⟨rfl, rowM_ro (wsv_scal _), trivial⟩ ⟨rfl, noUp⟩ ?_)  |  (refine vcall_pure (f := 47) (hde) rfl ?_)  |  (refine vcall_pure (f := 48) (hpr) rfl ?_)  |  (refine vcall_pure (f := 52) (he) rfl ?_)  |  (apply Sd.mk; · exact ⟨hcl, hck, rfl, by show 0 + C'.length ≤ 25; omega⟩)  |  ((with_reducible apply Vl.mk (α := List SV)); · exact hsa _ rfl)  |  (apply Sg.mk; · exact sg_all C' hcl) | (with_reducible apply sd_draw; · kernel_rfl) | (apply Sd.mk; · first | exact rfl | trivial | omega | (repeat' apply And.intro) <;> first | exact rfl | exact Nat.le_of_ble_eq_true rfl | omega | decide) | ((with_reducible apply Vl.mk (α := Int)); · (first | (with_reducible exact bits_keep _ _ _ _) | ((rewrite [tdiv_pos]); (focus (first | exact wi64 (by omega) (by omega) | exact wu32 (by omega) (by omega) | exact wi32 (by omega) (by omega))); omega) | exact tmod_pos (by omega) | exact wi64 (by omega) (by omega) | exact wu32 (by omega) (by omega) | exact wu32' _ | exact wu8 (by omega) (by omega) | exact wu64 (by omega) (by omega) | exact wi32 (by omega) (by omega) | rfl)) | ((with_reducible first | apply Vl.mk (α := Bool) | apply Vl.mk (α := Nat) | apply Vl.mk (α := ByteArray) | apply Ge.mk (α := Row) | apply Ge.mk (α := SV) | apply Ge.mk (α := AV)); · exact rfl) | (refine And.intro rfl ?_) | ((with_reducible first | apply Vl.mk (α := List SV) | apply Vl.mk (α := Ef) | apply Vl.mk (α := TV) | apply Ge.mk (α := List SV) | apply Sg.mk | apply Sk.mk); · (first | exact setAll_eq rfl | exact sg_all _ rfl | exact sk_all _ rfl rfl | ((first | apply sg_fc | apply sk_fc | (apply fc_eq; (conv => arg 1; whnf); apply fc_some) | apply fc_eq); (repeat' (first | exact fc_ren (wsv_scal _) | exact fc_ren (by assumption) | ((conv => arg 1; whnf); first | exact fc_nil | apply fc_cons | exact fc_int | exact fc_bool | exact fc_n | exact fc_ns | exact fc_ptr | exact fc_sl | exact fc_str | exact fc_unk | exact fc_fn | apply fc_s | apply fc_agg | apply fc_ta | apply fc_tup | exact fc_an | apply fc_ac | exact fc_tu | exact fc_nat | exact fc_bo | exact fc_none | apply fc_some | apply fc_pair | apply fc_row | apply fc_ef))); (all_goals exact rfl)) | ((dsimp only [Res.ef, renT, renA, renS, renN, nwN, upN, renRow, List.map_cons, List.map_nil, List.length_cons, List.length_nil]); first | done | exact rfl) | (dsimp only [setAll, List.set_cons_zero, List.set_cons_succ, List.cons_append, List.nil_append]; exact rfl) | exact rfl)) | ((first | apply Br.mk | apply Gd.mk) <;> (intro hb; first | (exact absurd hb (by decide)) | exact Bool.noConfusion (hb.symm.trans (by assumption) : true = false) | exact Bool.noConfusion (hb.symm.trans (by assumption) : false = true) | (simp only [decide_eq_true_eq, decide_eq_false_iff_not, beq_iff_eq, bne_iff_ne, beq_eq_false_iff_ne, bne_eq_false_iff_eq, Bool.not_eq_true', Bool.not_eq_false', Int.not_lt, Int.not_le, ge_iff_le, gt_iff_lt, ne_eq, Classical.not_not] at hb; first | (exfalso; omega) | skip) | skip)))); (all_goals (try (conv => whnf)))
  all_goals (apply Fin.mk (m := [(0, some 0), (1, some _)]); (focus exact rfl); (all_goals ((try (show HlS _ _ [] _)); first | ((repeat' (first | exact SVsM.nil | exact avsm_nil | exact svm_same rfl | exact svm_ptr rfl | exact svm_sl rfl | exact svm_slnil rfl | exact svsm_scal rfl | exact svsm_scal (wsv_scal _) | exact svsm_scal (by assumption) | exact hls_nil | apply SVsM.cons | apply tvm_a | apply tvm_tup | apply avm_agg | apply avm_s | apply avsm_cons | exact trivial | (refine hls_skip rfl ?_) | apply hls_none | apply hls_row | (refine rowmt_mk rfl rfl rfl rfl ?_) | exact rowmt_nil rfl rfl)); done) | exact rfl)))
end Go.Proofs.Ytckdamhnmcmbbaa
