/- Build of blocks: what both sides build. -/
import Derived.Test.YtppjiheebpabjaaBkA
import Derived.Test.YtppjiheebpabjaaBlkA
import Derived.Test.YtppjiheebpabjaaBlkB
import Derived.Test.YtppjiheebpabjaaLdA
import Derived.Test.YtppjiheebpabjaaDecA
namespace Go.Proofs.Ytppjiheebpabjaa
open Go Go.RowKit
set_option linter.unusedSimpArgs false
set_option linter.unusedVariables false

/-- The operation of a word. -/
def bM (w : Nat) : Mi := ⟨dOp w, (dA w).toNat, (dB w).toNat, (dC w).toNat, (trK (dOp w) (dM w)).toNat, 1⟩
theorem trK_rng (o m : Int) : 0 ≤ trK o m ∧ trK o m < 4294967296 := by
  unfold trK
  repeat' split
  all_goals omega
theorem d_rng (w : Nat) (hw : w < 4294967296) : 0 ≤ dOp w ∧ dOp w ≤ 255 ∧ 0 ≤ dA w ∧ dA w ≤ 15 ∧ 0 ≤ dB w ∧ dB w ≤ 15 ∧ 0 ≤ dC w ∧ dC w ≤ 65535 ∧ -32768 ≤ dM w ∧ dM w ≤ 65535 := by
  unfold dOp dA dB dC dM sx
  have : dI w < 65536 := by unfold dI; simp only [Nat.reducePow]; omega
  simp only [Nat.reducePow]
  refine ⟨by omega, by omega, by omega, by omega, by omega, by omega, ?_, ?_, ?_, ?_⟩
  all_goals
    repeat' split
    all_goals omega
theorem bM_C (w : Nat) (hw : w < 4294967296) : (bM w).C = mv (dOp w) (dA w) (dB w) (dC w) (trK (dOp w) (dM w)) 1 := by
  have h := d_rng w hw
  have h2 := trK_rng (dOp w) (dM w)
  unfold bM mv
  simp only [Mi.C]
  generalize trK (dOp w) (dM w) = T at *
  rw [Int.toNat_of_nonneg h.2.2.1, Int.toNat_of_nonneg h.2.2.2.2.1, Int.toNat_of_nonneg h.2.2.2.2.2.2.1, Int.toNat_of_nonneg h2.1]
/-- The operations from word q on, at most f. -/
def bl (xs : List Nat) : Nat → Nat → List Mi
  | 0, _ => []
  | f + 1, q => if dOk (xs.getD q 0) = true then (if endsB (dOp (xs.getD q 0)) = true then [bM (xs.getD q 0)] else bM (xs.getD q 0) :: bl xs f (q + 1)) else []
theorem bl_len (xs : List Nat) : ∀ f q, (bl xs f q).length ≤ f
  | 0, _ => Nat.le_refl _
  | f + 1, q => by
    have := bl_len xs f (q + 1)
    unfold bl
    repeat' split
    all_goals simp
    omega
/-- How many operations a block may have. -/
def lmt (a : Nat) (s : Int) : Nat := (min (min s 16) (32 - (a : Int) % 128 / 4)).toNat
def bok (n a : Nat) (s : Int) : Bool := decide (1 ≤ s) && ld4 n a
def blA (n a : Nat) (s : Int) : Nat := if bok n a s = true then a else 0
def blL (xs : List Nat) (n a : Nat) (s : Int) : List Mi := if bok n a s = true then bl xs (lmt a s) (a / 4) else []
def bst2 (LL : List SV) (n a : Nat) (lim : Int) (j : Nat) (R : List SV) : St :=
  ⟨[(0, .a (.s (.sl 0 0 n))), (1, .a (.s (.int .u32 a))), (9, .a (.s (.ptr 1 0))), (10, .a (.s (.int .i64 lim))), (6, .a (.s (.ptr 2 0)))],
   [(0, some ⟨false, 1, LL⟩), (1, some ⟨true, 1, [.int .u32 a, .int .i64 j, .sl 3 0 j]⟩), (2, some ⟨true, 1, [.int .u32 0, .int .i64 0, .nilsl]⟩), (3, some ⟨true, 6, R⟩)], [0]⟩
theorem decode_ok2 (w : Nat) (hw : w < 4294967296) (h : dOk w = true) : Fn Try.prog 15 [.s (.int .u32 w)] [] (· = ⟨.tup [.agg (iv (dOp w) (dA w) (dB w) (dC w) (dM w)), .s (.bool true)], [], []⟩) := by
  have := decode_fn w hw
  rw [h] at this
  exact this
theorem decode_no2 (w : Nat) (hw : w < 4294967296) (h : dOk w = false) : Fn Try.prog 15 [.s (.int .u32 w)] [] (· = ⟨.tup [.agg (iv 0 0 0 0 0), .s (.bool false)], [], []⟩) := by
  have := decode_fn w hw
  rw [h] at this
  exact this
set_option maxHeartbeats 1000000 in
set_option maxRecDepth 100000 in
theorem build_no (xs : List Nat) (n a : Nat) (s : Int) (hl : xs.length = n) (hn : n < 4294967296) (ha : a < 4294967296) (h : bok n a s = false) : Fn Try.prog 12 [.s (.sl 0 0 n), .s (.int .u32 a), .s (.int .i64 s)] [⟨false, 1, wsv xs⟩] (· = ⟨.a (.agg [.int .u32 0, .int .i64 0, .sl 1 0 0]), [], [⟨true, 6, []⟩]⟩) := by
  have hld := load4_fn xs n a hl hn ha
  have h3 : 1 ≤ s → a % 4 = 0 → ld4 n a = false := fun h1 h2 => by
    unfold bok at h; rw [decide_eq_true h1, Bool.true_and] at h; exact h
  clear h
  have hsc := wsv_scal xs
  generalize (if ld4 n a then xs.getD (a / 4) 0 else 0 : Nat) = W at *
  generalize wsv xs = LL at *
  by_cases h1 : 1 ≤ s ∧ a % 4 = 0
  · rw [h3 h1.1 h1.2] at hld
    refine fn_of_vc mixed tys_ok _ _ Try.func12 (by kernel_rfl) rfl Try.ntmps12 (by rw [Try.results12]) rfl ?_; dsimp only [argTm, argHl, Nat.zero_add, Nat.reduceAdd, List.length_nil, List.length_cons]
    (repeat' ((conv => whnf); first | (refine vcall_det (f := 27) hld [⟨0, 0⟩] [(0, ⟨false, 1, LL⟩)] rfl ⟨rfl, trivial⟩ ⟨rfl, rowM_ro hsc, trivial⟩ ⟨rfl, noUp⟩ ?_) | (with_reducible apply sd_draw; · kernel_rfl) | (apply Sd.mk; · first | exact rfl | trivial | omega | (repeat' apply And.intro) <;> first | exact rfl | exact Nat.le_of_ble_eq_true rfl | omega | decide) | ((with_reducible apply Vl.mk (α := Int)); · (first | (with_reducible exact bits_keep _ _ _ _) | ((rewrite [tdiv_pos]); (focus (first | exact wi64 (by omega) (by omega) | exact wu32 (by omega) (by omega) | exact wi32 (by omega) (by omega))); omega) | exact tmod_pos (by omega) | exact wi64 (by omega) (by omega) | exact wu32 (by omega) (by omega) | exact wu32' _ | exact wu8 (by omega) (by omega) | exact wu64 (by omega) (by omega) | exact wi32 (by omega) (by omega) | rfl)) | ((with_reducible first | apply Vl.mk (α := Bool) | apply Vl.mk (α := Nat) | apply Vl.mk (α := ByteArray) | apply Ge.mk (α := Row) | apply Ge.mk (α := SV) | apply Ge.mk (α := AV)); · exact rfl) | (refine And.intro rfl ?_) | ((with_reducible first | apply Vl.mk (α := List SV) | apply Vl.mk (α := Ef) | apply Vl.mk (α := TV) | apply Ge.mk (α := List SV) | apply Sg.mk | apply Sk.mk); · (first | exact setAll_eq rfl | exact sg_all _ rfl | exact sk_all _ rfl rfl | ((first | apply sg_fc | apply sk_fc | (apply fc_eq; (conv => arg 1; whnf); apply fc_some) | apply fc_eq); (repeat' (first | exact fc_ren (wsv_scal _) | exact fc_ren (by assumption) | ((conv => arg 1; whnf); first | exact fc_nil | apply fc_cons | exact fc_int | exact fc_bool | exact fc_n | exact fc_ns | exact fc_ptr | exact fc_sl | exact fc_str | exact fc_unk | exact fc_fn | apply fc_s | apply fc_agg | apply fc_ta | apply fc_tup | exact fc_an | apply fc_ac | exact fc_tu | exact fc_nat | exact fc_bo | exact fc_none | apply fc_some | apply fc_pair | apply fc_row | apply fc_ef))); (all_goals exact rfl)) | ((dsimp only [Res.ef, renT, renA, renS, renN, nwN, upN, renRow, List.map_cons, List.map_nil, List.length_cons, List.length_nil]); first | done | exact rfl) | (dsimp only [setAll, List.set_cons_zero, List.set_cons_succ, List.cons_append, List.nil_append]; exact rfl) | exact rfl)) | ((first | apply Br.mk | apply Gd.mk) <;> (intro hb; first | (exact absurd hb (by decide)) | exact Bool.noConfusion (hb.symm.trans (by assumption) : true = false) | exact Bool.noConfusion (hb.symm.trans (by assumption) : false = true) | (simp only [decide_eq_true_eq, decide_eq_false_iff_not, beq_iff_eq, bne_iff_ne, beq_eq_false_iff_ne, bne_eq_false_iff_eq, Bool.not_eq_true', Bool.not_eq_false', Int.not_lt, Int.not_le, ge_iff_le, gt_iff_lt, ne_eq, Classical.not_not] at hb; first | (exfalso; omega) | skip) | skip)))); (all_goals (try (conv => whnf)))
    all_goals first | (apply Fin.mk (m := [(0, some 0), (1, none)]); (focus exact rfl); (all_goals ((try (show HlS _ _ [] _)); first | ((repeat' (first | exact SVsM.nil | exact avsm_nil | exact svm_same rfl | exact svm_ptr rfl | exact svm_sl rfl | exact svm_slnil rfl | exact svsm_scal rfl | exact svsm_scal (wsv_scal _) | exact svsm_scal (by assumption) | exact hls_nil | apply SVsM.cons | apply tvm_a | apply tvm_tup | apply avm_agg | apply avm_s | apply avsm_cons | exact trivial | (refine hls_skip rfl ?_) | apply hls_none | apply hls_row | (refine rowmt_mk rfl rfl rfl rfl ?_) | exact rowmt_nil rfl rfl)); done) | exact rfl))) | trace_state
  · refine fn_of_vc mixed tys_ok _ _ Try.func12 (by kernel_rfl) rfl Try.ntmps12 (by rw [Try.results12]) rfl ?_; dsimp only [argTm, argHl, Nat.zero_add, Nat.reduceAdd, List.length_nil, List.length_cons]
    (repeat' ((conv => whnf); first | (with_reducible apply sd_draw; · kernel_rfl) | (apply Sd.mk; · first | exact rfl | trivial | omega | (repeat' apply And.intro) <;> first | exact rfl | exact Nat.le_of_ble_eq_true rfl | omega | decide) | ((with_reducible apply Vl.mk (α := Int)); · (first | (with_reducible exact bits_keep _ _ _ _) | ((rewrite [tdiv_pos]); (focus (first | exact wi64 (by omega) (by omega) | exact wu32 (by omega) (by omega) | exact wi32 (by omega) (by omega))); omega) | exact tmod_pos (by omega) | exact wi64 (by omega) (by omega) | exact wu32 (by omega) (by omega) | exact wu32' _ | exact wu8 (by omega) (by omega) | exact wu64 (by omega) (by omega) | exact wi32 (by omega) (by omega) | rfl)) | ((with_reducible first | apply Vl.mk (α := Bool) | apply Vl.mk (α := Nat) | apply Vl.mk (α := ByteArray) | apply Ge.mk (α := Row) | apply Ge.mk (α := SV) | apply Ge.mk (α := AV)); · exact rfl) | (refine And.intro rfl ?_) | ((with_reducible first | apply Vl.mk (α := List SV) | apply Vl.mk (α := Ef) | apply Vl.mk (α := TV) | apply Ge.mk (α := List SV) | apply Sg.mk | apply Sk.mk); · (first | exact setAll_eq rfl | exact sg_all _ rfl | exact sk_all _ rfl rfl | ((first | apply sg_fc | apply sk_fc | (apply fc_eq; (conv => arg 1; whnf); apply fc_some) | apply fc_eq); (repeat' (first | exact fc_ren (wsv_scal _) | exact fc_ren (by assumption) | ((conv => arg 1; whnf); first | exact fc_nil | apply fc_cons | exact fc_int | exact fc_bool | exact fc_n | exact fc_ns | exact fc_ptr | exact fc_sl | exact fc_str | exact fc_unk | exact fc_fn | apply fc_s | apply fc_agg | apply fc_ta | apply fc_tup | exact fc_an | apply fc_ac | exact fc_tu | exact fc_nat | exact fc_bo | exact fc_none | apply fc_some | apply fc_pair | apply fc_row | apply fc_ef))); (all_goals exact rfl)) | ((dsimp only [Res.ef, renT, renA, renS, renN, nwN, upN, renRow, List.map_cons, List.map_nil, List.length_cons, List.length_nil]); first | done | exact rfl) | (dsimp only [setAll, List.set_cons_zero, List.set_cons_succ, List.cons_append, List.nil_append]; exact rfl) | exact rfl)) | ((first | apply Br.mk | apply Gd.mk) <;> (intro hb; first | (exact absurd hb (by decide)) | exact Bool.noConfusion (hb.symm.trans (by assumption) : true = false) | exact Bool.noConfusion (hb.symm.trans (by assumption) : false = true) | (simp only [decide_eq_true_eq, decide_eq_false_iff_not, beq_iff_eq, bne_iff_ne, beq_eq_false_iff_ne, bne_eq_false_iff_eq, Bool.not_eq_true', Bool.not_eq_false', Int.not_lt, Int.not_le, ge_iff_le, gt_iff_lt, ne_eq, Classical.not_not] at hb; first | (exfalso; omega) | skip) | skip)))); (all_goals (try (conv => whnf)))
    all_goals first | (apply Fin.mk (m := [(0, some 0), (1, none)]); (focus exact rfl); (all_goals ((try (show HlS _ _ [] _)); first | ((repeat' (first | exact SVsM.nil | exact avsm_nil | exact svm_same rfl | exact svm_ptr rfl | exact svm_sl rfl | exact svm_slnil rfl | exact svsm_scal rfl | exact svsm_scal (wsv_scal _) | exact svsm_scal (by assumption) | exact hls_nil | apply SVsM.cons | apply tvm_a | apply tvm_tup | apply avm_agg | apply avm_s | apply avsm_cons | exact trivial | (refine hls_skip rfl ?_) | apply hls_none | apply hls_row | (refine rowmt_mk rfl rfl rfl rfl ?_) | exact rowmt_nil rfl rfl)); done) | exact rfl))) | trace_state
set_option maxHeartbeats 1000000 in
set_option maxRecDepth 100000 in
theorem build_ok (xs : List Nat) (n a : Nat) (s : Int) (hl : xs.length = n) (hn : n < 4294967296) (ha : a < 4294967296) (hxr : ∀ y ∈ xs, y < 4294967296) (h : bok n a s = true) (l : List Mi) (hL : bl xs (lmt a s) (a / 4) = l) (K : Nat) (hK : l.length = K) : Fn Try.prog 12 [.s (.sl 0 0 n), .s (.int .u32 a), .s (.int .i64 s)] [⟨false, 1, wsv xs⟩] (· = ⟨.a (.agg [.int .u32 a, .int .i64 K, .sl 1 0 K]), [], [⟨true, 6, mcs l⟩]⟩) := by
  have hb2 : 1 ≤ s ∧ ld4 n a = true := by unfold bok at h; simpa using h
  have hal : a % 4 = 0 ∧ a + 4 ≤ mpg n * 128 := by
    have := hb2.2
    unfold ld4 at this
    simpa using this
  have hld := load4_fn xs n a hl hn ha
  rw [hb2.2] at hld
  generalize (if true then xs.getD (a / 4) 0 else 0 : Nat) = W at *
  have hro := room_fn a ha
  have hsc := wsv_scal xs
  obtain ⟨lim, hlim⟩ : ∃ k, lmt a s = k := ⟨_, rfl⟩
  have hl1 : 1 ≤ lim ∧ lim ≤ 16 ∧ (lim : Int) ≤ 32 - (a : Int) % 128 / 4 := by rw [← hlim]; unfold lmt; omega
  have hmin : minL s [16, 32 - (a : Int) % 128 / 4] = (lim : Int) := by
    rw [← hlim]; unfold lmt
    simp only [minL, minS]
    repeat' split
    all_goals omega
  rw [hlim] at hL
  have hload : ∀ j : Nat, j < lim → ld4 n (a + 4 * j) = true ∧ a + 4 * j < 4294967296 ∧ (a + 4 * j) / 4 = a / 4 + j := fun j hj => by
    have hm := mpg_le n
    unfold ld4
    rw [decide_eq_true (by omega), decide_eq_true (by omega)]
    exact ⟨rfl, by omega, by omega⟩
  have hl4 : ∀ j : Nat, j < lim → Fn Try.prog 27 [.s (.sl 0 0 n), .s (.int .u32 (a + 4 * j : Nat)), .s (.int .i64 4)] [⟨false, 1, wsv xs⟩] (· = ⟨.tup [.s (.int .u32 (xs.getD (a / 4 + j) 0 : Nat)), .s (.bool true)], [], []⟩) := fun j hj => by
    obtain ⟨g1, g2, g3⟩ := hload j hj
    have := load4_ok xs n (a + 4 * j) hl hn g2 g1
    rw [g3] at this
    exact this
  have hwl : ∀ j, xs.getD j 0 < 4294967296 := fun j => by
    by_cases hj : j < xs.length
    · rw [List.getD_eq_getElem?_getD, List.getElem?_eq_getElem hj]; exact hxr _ (List.getElem_mem hj)
    · rw [List.getD_eq_getElem?_getD, List.getElem?_eq_none (by omega)]; simp
  generalize wsv xs = LL at *
  refine fn_of_vc mixed tys_ok _ _ Try.func12 (by kernel_rfl) rfl Try.ntmps12 (by rw [Try.results12]) rfl ?_; dsimp only [argTm, argHl, Nat.zero_add, Nat.reduceAdd, List.length_nil, List.length_cons]
  (repeat' ((conv => whnf); first | (refine vcall_det (f := 27) hld [⟨0, 0⟩] [(0, ⟨false, 1, LL⟩)] rfl ⟨rfl, trivial⟩ ⟨rfl, rowM_ro hsc, trivial⟩ ⟨rfl, noUp⟩ ?_)  |  (refine vcall_pure (f := 28) (hro) rfl ?_)  |  ((with_reducible apply Vl.mk (α := Int)); · with_reducible exact hmin) | (with_reducible apply sd_draw; · kernel_rfl) | (apply Sd.mk; · first | exact rfl | trivial | omega | (repeat' apply And.intro) <;> first | exact rfl | exact Nat.le_of_ble_eq_true rfl | omega | decide) | ((with_reducible apply Vl.mk (α := Int)); · (first | (with_reducible exact bits_keep _ _ _ _) | ((rewrite [tdiv_pos]); (focus (first | exact wi64 (by omega) (by omega) | exact wu32 (by omega) (by omega) | exact wi32 (by omega) (by omega))); omega) | exact tmod_pos (by omega) | exact wi64 (by omega) (by omega) | exact wu32 (by omega) (by omega) | exact wu32' _ | exact wu8 (by omega) (by omega) | exact wu64 (by omega) (by omega) | exact wi32 (by omega) (by omega) | rfl)) | ((with_reducible first | apply Vl.mk (α := Bool) | apply Vl.mk (α := Nat) | apply Vl.mk (α := ByteArray) | apply Ge.mk (α := Row) | apply Ge.mk (α := SV) | apply Ge.mk (α := AV)); · exact rfl) | (refine And.intro rfl ?_) | ((with_reducible first | apply Vl.mk (α := List SV) | apply Vl.mk (α := Ef) | apply Vl.mk (α := TV) | apply Ge.mk (α := List SV) | apply Sg.mk | apply Sk.mk); · (first | exact setAll_eq rfl | exact sg_all _ rfl | exact sk_all _ rfl rfl | ((first | apply sg_fc | apply sk_fc | (apply fc_eq; (conv => arg 1; whnf); apply fc_some) | apply fc_eq); (repeat' (first | exact fc_ren (wsv_scal _) | exact fc_ren (by assumption) | ((conv => arg 1; whnf); first | exact fc_nil | apply fc_cons | exact fc_int | exact fc_bool | exact fc_n | exact fc_ns | exact fc_ptr | exact fc_sl | exact fc_str | exact fc_unk | exact fc_fn | apply fc_s | apply fc_agg | apply fc_ta | apply fc_tup | exact fc_an | apply fc_ac | exact fc_tu | exact fc_nat | exact fc_bo | exact fc_none | apply fc_some | apply fc_pair | apply fc_row | apply fc_ef))); (all_goals exact rfl)) | ((dsimp only [Res.ef, renT, renA, renS, renN, nwN, upN, renRow, List.map_cons, List.map_nil, List.length_cons, List.length_nil]); first | done | exact rfl) | (dsimp only [setAll, List.set_cons_zero, List.set_cons_succ, List.cons_append, List.nil_append]; exact rfl) | exact rfl)) | ((first | apply Br.mk | apply Gd.mk) <;> (intro hb; first | (exact absurd hb (by decide)) | exact Bool.noConfusion (hb.symm.trans (by assumption) : true = false) | exact Bool.noConfusion (hb.symm.trans (by assumption) : false = true) | (simp only [decide_eq_true_eq, decide_eq_false_iff_not, beq_iff_eq, bne_iff_ne, beq_eq_false_iff_ne, bne_eq_false_iff_eq, Bool.not_eq_true', Bool.not_eq_false', Int.not_lt, Int.not_le, ge_iff_le, gt_iff_lt, ne_eq, Classical.not_not] at hb; first | (exfalso; omega) | skip) | skip)))); (all_goals (try (conv => whnf)))
  refine Lp.inv (fun mm σ => ∃ (j : Nat) (R : List Mi), mm + j = lim ∧ R.length = j ∧ R ++ bl xs mm (a / 4 + j) = l ∧ σ = bst2 LL n a lim j (mcs R)) ?_ ?_
  · refine ⟨lim, bst2 LL n a lim 0 [], ?_, 0, [], by omega, rfl, hL, rfl⟩
    apply wk_of (m := [(0, some 0), (1, some 327808), (2, some 65536), (3, none)])
    · repeat' (first | exact tml_nil | apply tml_cons)
      all_goals first | exact tvm_a (avm_s (svm_same rfl)) | exact tvm_a (avm_s (svm_ptr rfl)) | exact tvm_a (avm_s (svm_sl rfl))
    · show HlS _ _ [] _
      refine hls_row (rowmt_mk rfl rfl rfl rfl (svsm_scal hsc)) ?_
      refine hls_row (rowmt_mk rfl rfl rfl rfl (.cons (svm_same rfl) (.cons (svm_same rfl) (.cons (svm_slnil rfl) .nil)))) ?_
      refine hls_row (rowmt_mk rfl rfl rfl rfl (svsm_scal rfl)) ?_
      refine hls_row (rowmt_nil rfl rfl) ?_
      exact hls_nil
    · rfl
  · rintro mm σ ⟨j, R, hmj, hRj, hinv, rfl⟩
    unfold bst2
    clear hld hro hmin
    by_cases hj : j < lim
    · have hlj := hl4 j hj
      have g := hload j hj
      have hw := hwl (a / 4 + j)
      have hst : bl xs mm (a / 4 + j) = if dOk (xs.getD (a / 4 + j) 0) = true then (if endsB (dOp (xs.getD (a / 4 + j) 0)) = true then [bM (xs.getD (a / 4 + j) 0)] else bM (xs.getD (a / 4 + j) 0) :: bl xs (mm - 1) (a / 4 + j + 1)) else [] := by
        obtain ⟨f, rfl⟩ : ∃ f, mm = f + 1 := ⟨mm - 1, by omega⟩
        rfl
      have hC := bM_C (xs.getD (a / 4 + j) 0) hw
      have e3 : IntKind.u32.wrap ((a : Int) + 4 * (j : Int)) = ((a + 4 * j : Nat) : Int) := by rw [wu32 (by omega) (by omega)]; omega
      rw [hst] at hinv
      clear hl4 hload hwl hst h
      generalize xs.getD (a / 4 + j) 0 = w at *
      have hRs := mcs_scal R
      have hRl := mcs_len R
      cases hd : dOk w with
      | false =>
        have cde := decode_no2 w hw hd
        have e4 := e3
        rw [hd, if_neg (by simp), List.append_nil] at hinv
        subst hinv
        have hKj : K = j := by omega
        subst hKj
        generalize mcs R = RR at *
        (repeat' ((conv => whnf); first | ((with_reducible apply Vl.mk (α := Int)); · with_reducible first | exact e3 | exact e4)  |  (refine vcall_det (f := 27) hlj [⟨0, 0⟩] [(0, ⟨false, 1, LL⟩)] rfl ⟨rfl, trivial⟩ ⟨rfl, rowM_ro hsc, trivial⟩ ⟨rfl, noUp⟩ ?_)  |  (refine vcall_pure (f := 15) (cde) rfl ?_) | (with_reducible apply sd_draw; · kernel_rfl) | (apply Sd.mk; · first | exact rfl | trivial | omega | (repeat' apply And.intro) <;> first | exact rfl | exact Nat.le_of_ble_eq_true rfl | omega | decide) | ((with_reducible apply Vl.mk (α := Int)); · (first | (with_reducible exact bits_keep _ _ _ _) | ((rewrite [tdiv_pos]); (focus (first | exact wi64 (by omega) (by omega) | exact wu32 (by omega) (by omega) | exact wi32 (by omega) (by omega))); omega) | exact tmod_pos (by omega) | exact wi64 (by omega) (by omega) | exact wu32 (by omega) (by omega) | exact wu32' _ | exact wu8 (by omega) (by omega) | exact wu64 (by omega) (by omega) | exact wi32 (by omega) (by omega) | rfl)) | ((with_reducible first | apply Vl.mk (α := Bool) | apply Vl.mk (α := Nat) | apply Vl.mk (α := ByteArray) | apply Ge.mk (α := Row) | apply Ge.mk (α := SV) | apply Ge.mk (α := AV)); · exact rfl) | (refine And.intro rfl ?_) | ((with_reducible first | apply Vl.mk (α := List SV) | apply Vl.mk (α := Ef) | apply Vl.mk (α := TV) | apply Ge.mk (α := List SV) | apply Sg.mk | apply Sk.mk); · (first | exact setAll_eq rfl | exact sg_all _ rfl | exact sk_all _ rfl rfl | ((first | apply sg_fc | apply sk_fc | (apply fc_eq; (conv => arg 1; whnf); apply fc_some) | apply fc_eq); (repeat' (first | exact fc_ren (wsv_scal _) | exact fc_ren (by assumption) | ((conv => arg 1; whnf); first | exact fc_nil | apply fc_cons | exact fc_int | exact fc_bool | exact fc_n | exact fc_ns | exact fc_ptr | exact fc_sl | exact fc_str | exact fc_unk | exact fc_fn | apply fc_s | apply fc_agg | apply fc_ta | apply fc_tup | exact fc_an | apply fc_ac | exact fc_tu | exact fc_nat | exact fc_bo | exact fc_none | apply fc_some | apply fc_pair | apply fc_row | apply fc_ef))); (all_goals exact rfl)) | ((dsimp only [Res.ef, renT, renA, renS, renN, nwN, upN, renRow, List.map_cons, List.map_nil, List.length_cons, List.length_nil]); first | done | exact rfl) | (dsimp only [setAll, List.set_cons_zero, List.set_cons_succ, List.cons_append, List.nil_append]; exact rfl) | exact rfl)) | ((first | apply Br.mk | apply Gd.mk) <;> (intro hb; first | (exact absurd hb (by decide)) | exact Bool.noConfusion (hb.symm.trans (by assumption) : true = false) | exact Bool.noConfusion (hb.symm.trans (by assumption) : false = true) | (simp only [decide_eq_true_eq, decide_eq_false_iff_not, beq_iff_eq, bne_iff_ne, beq_eq_false_iff_ne, bne_eq_false_iff_eq, Bool.not_eq_true', Bool.not_eq_false', Int.not_lt, Int.not_le, ge_iff_le, gt_iff_lt, ne_eq, Classical.not_not] at hb; first | (exfalso; omega) | skip) | skip)))); (all_goals (try (conv => whnf)))
        all_goals first | (apply Fin.mk (m := [(0, some 0), (1, some 3)]); (focus exact rfl); (all_goals ((try (show HlS _ _ [] _)); first | ((repeat' (first | exact SVsM.nil | exact avsm_nil | exact svm_same rfl | exact svm_ptr rfl | exact svm_sl rfl | exact svm_slnil rfl | exact svsm_scal rfl | exact svsm_scal (wsv_scal _) | exact svsm_scal (by assumption) | exact hls_nil | apply SVsM.cons | apply tvm_a | apply tvm_tup | apply avm_agg | apply avm_s | apply avsm_cons | exact trivial | (refine hls_skip rfl ?_) | apply hls_none | apply hls_row | (refine rowmt_mk rfl rfl rfl rfl ?_) | exact rowmt_nil rfl rfl)); done) | exact rfl))) | trace_state
      | true =>
        have cde := decode_ok2 w hw hd
        have e4 := e3
        rw [hd, if_pos rfl] at hinv
        have ctr := translate_fn (dOp w) (dA w) (dB w) (dC w) (dM w)
        have cen := ends_fn (dOp w)
        have hjo := join_sl a j (dOp w) (dA w) (dB w) (dC w) (trK (dOp w) (dM w)) 1 (mcs R) j (by omega) (by rw [hRl, hRj]) hRs (by omega) (by omega) (by omega) (by omega)
        have happ : mcs R ++ [.int .i64 (dOp w), .int .i64 (dA w), .int .i64 (dB w), .int .i64 (dC w), .int .u32 (trK (dOp w) (dM w)), .int .i64 1] = mcs (R ++ [bM w]) := by
          rw [mcs_app]
          show _ = mcs R ++ ((bM w).C ++ [])
          rw [hC, List.append_nil]; rfl
        rw [happ, show (j : Int) + 1 = ((j + 1 : Nat) : Int) by omega] at hjo
        have hRs2 := mcs_scal (R ++ [bM w])
        clear happ hC
        generalize bM w = M at *
        generalize trK (dOp w) (dM w) = T at *
        generalize dOp w = o at *
        generalize dA w = A at *
        generalize dB w = B at *
        generalize dC w = C at *
        generalize dM w = I at *
        cases hE : endsB o with
        | true =>
          rw [hE] at cen
          rw [hE, if_pos rfl] at hinv
          rw [hinv] at hjo hRs2
          have hKj : K = j + 1 := by rw [← hK, ← hinv]; simp; omega
          subst hKj
          generalize mcs R = RR at *
          generalize mcs l = LM at *
          (repeat' ((conv => whnf); first | ((with_reducible apply Vl.mk (α := Int)); · with_reducible first | exact e3 | exact e4)  |  (refine vcall_det (f := 27) hlj [⟨0, 0⟩] [(0, ⟨false, 1, LL⟩)] rfl ⟨rfl, trivial⟩ ⟨rfl, rowM_ro hsc, trivial⟩ ⟨rfl, noUp⟩ ?_)  |  (refine vcall_pure (f := 15) (cde) rfl ?_)  |  (refine vcall_pure (f := 30) (ctr) rfl ?_)  |  (refine vcall_pure (f := 14) (cen) rfl ?_)  |  (refine vcall_det (f := 29) hjo [⟨3, 0⟩, ⟨_, 0⟩] [(3, ⟨true, 6, RR⟩), (_, ⟨true, 6, _⟩)] rfl ⟨rfl, rfl, trivial⟩ ⟨rfl, rowM_hand hRs rfl, rfl, rowM_hand rfl rfl, trivial⟩ ⟨rfl, by simp⟩ ?_) | (with_reducible apply sd_draw; · kernel_rfl) | (apply Sd.mk; · first | exact rfl | trivial | omega | (repeat' apply And.intro) <;> first | exact rfl | exact Nat.le_of_ble_eq_true rfl | omega | decide) | ((with_reducible apply Vl.mk (α := Int)); · (first | (with_reducible exact bits_keep _ _ _ _) | ((rewrite [tdiv_pos]); (focus (first | exact wi64 (by omega) (by omega) | exact wu32 (by omega) (by omega) | exact wi32 (by omega) (by omega))); omega) | exact tmod_pos (by omega) | exact wi64 (by omega) (by omega) | exact wu32 (by omega) (by omega) | exact wu32' _ | exact wu8 (by omega) (by omega) | exact wu64 (by omega) (by omega) | exact wi32 (by omega) (by omega) | rfl)) | ((with_reducible first | apply Vl.mk (α := Bool) | apply Vl.mk (α := Nat) | apply Vl.mk (α := ByteArray) | apply Ge.mk (α := Row) | apply Ge.mk (α := SV) | apply Ge.mk (α := AV)); · exact rfl) | (refine And.intro rfl ?_) | ((with_reducible first | apply Vl.mk (α := List SV) | apply Vl.mk (α := Ef) | apply Vl.mk (α := TV) | apply Ge.mk (α := List SV) | apply Sg.mk | apply Sk.mk); · (first | exact setAll_eq rfl | exact sg_all _ rfl | exact sk_all _ rfl rfl | ((first | apply sg_fc | apply sk_fc | (apply fc_eq; (conv => arg 1; whnf); apply fc_some) | apply fc_eq); (repeat' (first | exact fc_ren (wsv_scal _) | exact fc_ren (by assumption) | ((conv => arg 1; whnf); first | exact fc_nil | apply fc_cons | exact fc_int | exact fc_bool | exact fc_n | exact fc_ns | exact fc_ptr | exact fc_sl | exact fc_str | exact fc_unk | exact fc_fn | apply fc_s | apply fc_agg | apply fc_ta | apply fc_tup | exact fc_an | apply fc_ac | exact fc_tu | exact fc_nat | exact fc_bo | exact fc_none | apply fc_some | apply fc_pair | apply fc_row | apply fc_ef))); (all_goals exact rfl)) | ((dsimp only [Res.ef, renT, renA, renS, renN, nwN, upN, renRow, List.map_cons, List.map_nil, List.length_cons, List.length_nil]); first | done | exact rfl) | (dsimp only [setAll, List.set_cons_zero, List.set_cons_succ, List.cons_append, List.nil_append]; exact rfl) | exact rfl)) | ((first | apply Br.mk | apply Gd.mk) <;> (intro hb; first | (exact absurd hb (by decide)) | exact Bool.noConfusion (hb.symm.trans (by assumption) : true = false) | exact Bool.noConfusion (hb.symm.trans (by assumption) : false = true) | (simp only [decide_eq_true_eq, decide_eq_false_iff_not, beq_iff_eq, bne_iff_ne, beq_eq_false_iff_ne, bne_eq_false_iff_eq, Bool.not_eq_true', Bool.not_eq_false', Int.not_lt, Int.not_le, ge_iff_le, gt_iff_lt, ne_eq, Classical.not_not] at hb; first | (exfalso; omega) | skip) | skip)))); (all_goals (try (conv => whnf)))
          all_goals first | (apply Fin.mk (m := [(0, some 0), (1, some _)]); (focus exact rfl); (all_goals ((try (show HlS _ _ [] _)); first | ((repeat' (first | exact SVsM.nil | exact avsm_nil | exact svm_same rfl | exact svm_ptr rfl | exact svm_sl rfl | exact svm_slnil rfl | exact svsm_scal rfl | exact svsm_scal (wsv_scal _) | exact svsm_scal (by assumption) | exact hls_nil | apply SVsM.cons | apply tvm_a | apply tvm_tup | apply avm_agg | apply avm_s | apply avsm_cons | exact trivial | (refine hls_skip rfl ?_) | apply hls_none | apply hls_row | (refine rowmt_mk rfl rfl rfl rfl ?_) | exact rowmt_nil rfl rfl)); done) | exact rfl))) | trace_state
        | false =>
          rw [hE] at cen
          rw [hE, if_neg (by simp)] at hinv
          have hnx : (R ++ [M]) ++ bl xs (mm - 1) (a / 4 + (j + 1)) = l := by rw [← hinv, List.append_assoc]; rfl
          generalize hR2 : R ++ [M] = R2 at *
          have hR2l : R2.length = j + 1 := by rw [← hR2]; simp; omega
          generalize mcs R = RR at *
          generalize hRM : mcs R2 = RM at *
          (repeat' ((conv => whnf); first | ((with_reducible apply Vl.mk (α := Int)); · with_reducible first | exact e3 | exact e4)  |  (refine vcall_det (f := 27) hlj [⟨0, 0⟩] [(0, ⟨false, 1, LL⟩)] rfl ⟨rfl, trivial⟩ ⟨rfl, rowM_ro hsc, trivial⟩ ⟨rfl, noUp⟩ ?_)  |  (refine vcall_pure (f := 15) (cde) rfl ?_)  |  (refine vcall_pure (f := 30) (ctr) rfl ?_)  |  (refine vcall_pure (f := 14) (cen) rfl ?_)  |  (refine vcall_det (f := 29) hjo [⟨3, 0⟩, ⟨_, 0⟩] [(3, ⟨true, 6, RR⟩), (_, ⟨true, 6, _⟩)] rfl ⟨rfl, rfl, trivial⟩ ⟨rfl, rowM_hand hRs rfl, rfl, rowM_hand rfl rfl, trivial⟩ ⟨rfl, by simp⟩ ?_) | (with_reducible apply sd_draw; · kernel_rfl) | (apply Sd.mk; · first | exact rfl | trivial | omega | (repeat' apply And.intro) <;> first | exact rfl | exact Nat.le_of_ble_eq_true rfl | omega | decide) | ((with_reducible apply Vl.mk (α := Int)); · (first | (with_reducible exact bits_keep _ _ _ _) | ((rewrite [tdiv_pos]); (focus (first | exact wi64 (by omega) (by omega) | exact wu32 (by omega) (by omega) | exact wi32 (by omega) (by omega))); omega) | exact tmod_pos (by omega) | exact wi64 (by omega) (by omega) | exact wu32 (by omega) (by omega) | exact wu32' _ | exact wu8 (by omega) (by omega) | exact wu64 (by omega) (by omega) | exact wi32 (by omega) (by omega) | rfl)) | ((with_reducible first | apply Vl.mk (α := Bool) | apply Vl.mk (α := Nat) | apply Vl.mk (α := ByteArray) | apply Ge.mk (α := Row) | apply Ge.mk (α := SV) | apply Ge.mk (α := AV)); · exact rfl) | (refine And.intro rfl ?_) | ((with_reducible first | apply Vl.mk (α := List SV) | apply Vl.mk (α := Ef) | apply Vl.mk (α := TV) | apply Ge.mk (α := List SV) | apply Sg.mk | apply Sk.mk); · (first | exact setAll_eq rfl | exact sg_all _ rfl | exact sk_all _ rfl rfl | ((first | apply sg_fc | apply sk_fc | (apply fc_eq; (conv => arg 1; whnf); apply fc_some) | apply fc_eq); (repeat' (first | exact fc_ren (wsv_scal _) | exact fc_ren (by assumption) | ((conv => arg 1; whnf); first | exact fc_nil | apply fc_cons | exact fc_int | exact fc_bool | exact fc_n | exact fc_ns | exact fc_ptr | exact fc_sl | exact fc_str | exact fc_unk | exact fc_fn | apply fc_s | apply fc_agg | apply fc_ta | apply fc_tup | exact fc_an | apply fc_ac | exact fc_tu | exact fc_nat | exact fc_bo | exact fc_none | apply fc_some | apply fc_pair | apply fc_row | apply fc_ef))); (all_goals exact rfl)) | ((dsimp only [Res.ef, renT, renA, renS, renN, nwN, upN, renRow, List.map_cons, List.map_nil, List.length_cons, List.length_nil]); first | done | exact rfl) | (dsimp only [setAll, List.set_cons_zero, List.set_cons_succ, List.cons_append, List.nil_append]; exact rfl) | exact rfl)) | ((first | apply Br.mk | apply Gd.mk) <;> (intro hb; first | (exact absurd hb (by decide)) | exact Bool.noConfusion (hb.symm.trans (by assumption) : true = false) | exact Bool.noConfusion (hb.symm.trans (by assumption) : false = true) | (simp only [decide_eq_true_eq, decide_eq_false_iff_not, beq_iff_eq, bne_iff_ne, beq_eq_false_iff_ne, bne_eq_false_iff_eq, Bool.not_eq_true', Bool.not_eq_false', Int.not_lt, Int.not_le, ge_iff_le, gt_iff_lt, ne_eq, Classical.not_not] at hb; first | (exfalso; omega) | skip) | skip)))); (all_goals (try (conv => whnf)))
          all_goals first
            | (refine ⟨mm - 1, bst2 LL n a lim (j + 1) RM, by omega, ?_, j + 1, R2, by omega, hR2l, hnx, by rw [hRM]; rfl⟩
               apply wk_of (m := [(0, some 0), (1, some 1), (2, some 2), (3, some 327936)])
               · repeat' (first | exact tml_nil | apply tml_cons)
                 all_goals first | exact tvm_a (avm_s (svm_same rfl)) | exact tvm_a (avm_s (svm_ptr rfl)) | exact tvm_a (avm_s (svm_sl rfl))
               · show HlS _ _ [] _
                 refine hls_row (rowmt_mk rfl rfl rfl rfl (svsm_scal hsc)) ?_
                 refine hls_row (rowmt_mk rfl rfl rfl rfl (.cons (svm_same rfl) (.cons (svm_same rfl) (.cons (svm_sl rfl) .nil)))) ?_
                 refine hls_row (rowmt_mk rfl rfl rfl rfl (svsm_scal rfl)) ?_
                 refine hls_row (rowmt_mk rfl rfl rfl rfl (svsm_scal hRs2)) ?_
                 exact hls_nil
               · rfl
               )
            | trace_state
    · have hm0 : mm = 0 := by omega
      subst hm0
      have hinv2 : R = l := by rw [← hinv]; show R = R ++ []; rw [List.append_nil]
      subst hinv2
      have hKj : K = j := by omega
      subst hKj
      have hRs := mcs_scal R
      generalize mcs R = RR at *
      (repeat' ((conv => whnf); first | (with_reducible apply sd_draw; · kernel_rfl) | (apply Sd.mk; · first | exact rfl | trivial | omega | (repeat' apply And.intro) <;> first | exact rfl | exact Nat.le_of_ble_eq_true rfl | omega | decide) | ((with_reducible apply Vl.mk (α := Int)); · (first | (with_reducible exact bits_keep _ _ _ _) | ((rewrite [tdiv_pos]); (focus (first | exact wi64 (by omega) (by omega) | exact wu32 (by omega) (by omega) | exact wi32 (by omega) (by omega))); omega) | exact tmod_pos (by omega) | exact wi64 (by omega) (by omega) | exact wu32 (by omega) (by omega) | exact wu32' _ | exact wu8 (by omega) (by omega) | exact wu64 (by omega) (by omega) | exact wi32 (by omega) (by omega) | rfl)) | ((with_reducible first | apply Vl.mk (α := Bool) | apply Vl.mk (α := Nat) | apply Vl.mk (α := ByteArray) | apply Ge.mk (α := Row) | apply Ge.mk (α := SV) | apply Ge.mk (α := AV)); · exact rfl) | (refine And.intro rfl ?_) | ((with_reducible first | apply Vl.mk (α := List SV) | apply Vl.mk (α := Ef) | apply Vl.mk (α := TV) | apply Ge.mk (α := List SV) | apply Sg.mk | apply Sk.mk); · (first | exact setAll_eq rfl | exact sg_all _ rfl | exact sk_all _ rfl rfl | ((first | apply sg_fc | apply sk_fc | (apply fc_eq; (conv => arg 1; whnf); apply fc_some) | apply fc_eq); (repeat' (first | exact fc_ren (wsv_scal _) | exact fc_ren (by assumption) | ((conv => arg 1; whnf); first | exact fc_nil | apply fc_cons | exact fc_int | exact fc_bool | exact fc_n | exact fc_ns | exact fc_ptr | exact fc_sl | exact fc_str | exact fc_unk | exact fc_fn | apply fc_s | apply fc_agg | apply fc_ta | apply fc_tup | exact fc_an | apply fc_ac | exact fc_tu | exact fc_nat | exact fc_bo | exact fc_none | apply fc_some | apply fc_pair | apply fc_row | apply fc_ef))); (all_goals exact rfl)) | ((dsimp only [Res.ef, renT, renA, renS, renN, nwN, upN, renRow, List.map_cons, List.map_nil, List.length_cons, List.length_nil]); first | done | exact rfl) | (dsimp only [setAll, List.set_cons_zero, List.set_cons_succ, List.cons_append, List.nil_append]; exact rfl) | exact rfl)) | ((first | apply Br.mk | apply Gd.mk) <;> (intro hb; first | (exact absurd hb (by decide)) | exact Bool.noConfusion (hb.symm.trans (by assumption) : true = false) | exact Bool.noConfusion (hb.symm.trans (by assumption) : false = true) | (simp only [decide_eq_true_eq, decide_eq_false_iff_not, beq_iff_eq, bne_iff_ne, beq_eq_false_iff_ne, bne_eq_false_iff_eq, Bool.not_eq_true', Bool.not_eq_false', Int.not_lt, Int.not_le, ge_iff_le, gt_iff_lt, ne_eq, Classical.not_not] at hb; first | (exfalso; omega) | skip) | skip)))); (all_goals (try (conv => whnf)))
      all_goals first | (apply Fin.mk (m := [(0, some 0), (1, some 3)]); (focus exact rfl); (all_goals ((try (show HlS _ _ [] _)); first | ((repeat' (first | exact SVsM.nil | exact avsm_nil | exact svm_same rfl | exact svm_ptr rfl | exact svm_sl rfl | exact svm_slnil rfl | exact svsm_scal rfl | exact svsm_scal (wsv_scal _) | exact svsm_scal (by assumption) | exact hls_nil | apply SVsM.cons | apply tvm_a | apply tvm_tup | apply avm_agg | apply avm_s | apply avsm_cons | exact trivial | (refine hls_skip rfl ?_) | apply hls_none | apply hls_row | (refine rowmt_mk rfl rfl rfl rfl ?_) | exact rowmt_nil rfl rfl)); done) | exact rfl))) | trace_state
end Go.Proofs.Ytppjiheebpabjaa
