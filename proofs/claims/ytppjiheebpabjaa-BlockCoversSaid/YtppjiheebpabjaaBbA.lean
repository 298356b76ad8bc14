/- Blocks that are built: they may stand; both sides build the same; frames; memories. -/
import Derived.Test.YtppjiheebpabjaaBldC
import Derived.Test.YtppjiheebpabjaaCodA
namespace Go.Proofs.Ytppjiheebpabjaa
open Go Go.RowKit
set_option linter.unusedSimpArgs false
set_option linter.unusedVariables false

theorem dok_c (w : Nat) (hw : w < 4294967296) (h : dOk w = true) : dC w ≤ 15 ∧ useOk (dOp w) = true := by
  unfold dOk at h
  rw [Bool.and_eq_true] at h
  refine ⟨?_, h.1⟩
  have h2 := h.2
  unfold validB at h2
  simp only [Bool.and_eq_true] at h2
  have h3 := h2.1.1.2
  cases hu : useC (dOp w) with
  | false => unfold dC; rw [hu]; simp
  | true =>
    rw [hu] at h3
    unfold regB at h3
    simp only [Bool.and_eq_true, decide_eq_true_eq] at h3
    exact h3.2
theorem bM_ok (w : Nat) (hw : w < 4294967296) (h : dOk w = true) : MiOk (bM w) := by
  have hd := d_rng w hw
  have hc := (dok_c w hw h).1
  have ht := trK_rng (dOp w) (dM w)
  unfold MiOk bM
  dsimp only
  generalize trK (dOp w) (dM w) = T at *
  omega
theorem bl_ok (xs : List Nat) (hw : ∀ j, xs.getD j 0 < 4294967296) : ∀ f q, ∀ m ∈ bl xs f q, MiOk m
  | 0, _, m, h => by cases h
  | f + 1, q, m, h => by
    unfold bl at h
    split at h
    · rename_i hd
      split at h
      · rw [List.mem_singleton] at h; subst h; exact bM_ok _ (hw q) hd
      · rcases List.mem_cons.1 h with e | e
        · subst e; exact bM_ok _ (hw q) hd
        · exact bl_ok xs hw f (q + 1) m e
    · cases h
theorem bl_sum (xs : List Nat) (hw : ∀ j, xs.getD j 0 < 4294967296) : ∀ f q (s : Int), maySum ((bl xs f q).map Mi.z) s = some (s + (bl xs f q).length)
  | 0, _, s => by show some s = some (s + 0); rw [Int.add_zero]
  | f + 1, q, s => by
    unfold bl
    by_cases hd : dOk (xs.getD q 0) = true
    · have hok := bM_ok _ (hw q) hd
      have hu := (dok_c _ (hw q) hd).2
      have hr : (bM (xs.getD q 0)).a < 16 ∧ (bM (xs.getD q 0)).b < 16 ∧ (bM (xs.getD q 0)).c < 16 := ⟨hok.1, hok.2.1, hok.2.2.1⟩
      have hz : (bM (xs.getD q 0)).z.n = 1 := rfl
      rw [if_pos hd]
      by_cases he : endsB (dOp (xs.getD q 0)) = true
      · rw [if_pos he, List.map_cons, maySum, if_pos ((okM_z (bM (xs.getD q 0)) ([].map Mi.z).isEmpty hr).2 ⟨hu, by show (1 : Int) ≤ 1; omega, by show (1 : Int) ≤ 16; omega, .inl rfl⟩), hz, List.map_nil, maySum, List.length_singleton]
        congr 1
      · have he2 : endsB (bM (xs.getD q 0)).o = false := by
          show endsB (dOp (xs.getD q 0)) = false
          simpa using he
        rw [if_neg he, List.map_cons, maySum, if_pos ((okM_z (bM (xs.getD q 0)) _ hr).2 ⟨hu, by show (1 : Int) ≤ 1; omega, by show (1 : Int) ≤ 16; omega, .inr he2⟩), hz, bl_sum xs hw f (q + 1)]
        congr 1
        rw [List.length_cons]; omega
    · rw [if_neg hd]
      show some s = some (s + 0); rw [Int.add_zero]
theorem getD_lt4 {xs : List Nat} (h : ∀ y ∈ xs, y < 4294967296) (j : Nat) : xs.getD j 0 < 4294967296 := by
  by_cases hj : j < xs.length
  · rw [List.getD_eq_getElem?_getD, List.getElem?_eq_getElem hj]; exact h _ (List.getElem_mem hj)
  · rw [List.getD_eq_getElem?_getD, List.getElem?_eq_none (by omega)]; simp
/-- What is built. -/
theorem blL_facts (xs : List Nat) (n a : Nat) (s : Int) (hxr : ∀ y ∈ xs, y < 4294967296) : (blL xs n a s).length ≤ 16 ∧ (∀ m ∈ blL xs n a s, MiOk m) ∧ ((blL xs n a s).length ≠ 0 → mayV (blA n a s) (blL xs n a s).length ((blL xs n a s).map Mi.z) = true) := by
  unfold blL blA
  cases h : bok n a s with
  | false => exact ⟨by simp, fun m hm => by simp at hm, fun h0 => (h0 (by simp)).elim⟩
  | true =>
    rw [if_pos rfl, if_pos rfl]
    have hb2 : 1 ≤ s ∧ ld4 n a = true := by unfold bok at h; simpa using h
    have hal : a % 4 = 0 := by
      have := hb2.2
      unfold ld4 at this
      simp at this
      exact this.1
    have hl := bl_len xs (lmt a s) (a / 4)
    have hl2 : lmt a s ≤ 16 ∧ (lmt a s : Int) ≤ 32 - (a : Int) % 128 / 4 := by unfold lmt; omega
    refine ⟨by omega, bl_ok xs (getD_lt4 hxr) _ _, fun h0 => ?_⟩
    rw [mayV_iff]
    refine ⟨?_, ?_⟩
    · unfold hdB; exact decide_eq_true (by omega)
    · rw [bl_sum xs (getD_lt4 hxr)]; simp
theorem buildA_fn (xs : List Nat) (n a : Nat) (s : Int) (hl : xs.length = n) (hn : n < 4294967296) (ha : a < 4294967296) (hxr : ∀ y ∈ xs, y < 4294967296) (K : Nat) (hK : (blL xs n a s).length = K) :
    Fn Try.prog 12 [.s (.sl 0 0 n), .s (.int .u32 a), .s (.int .i64 s)] [⟨false, 1, wsv xs⟩] (· = ⟨.a (.agg [.int .u32 (blA n a s : Nat), .int .i64 K, .sl 1 0 K]), [], [⟨true, 6, mcs (blL xs n a s)⟩]⟩) := by
  unfold blL at hK ⊢
  unfold blA
  cases h : bok n a s with
  | false => rw [h] at hK; subst hK; exact build_no xs n a s hl hn ha h
  | true => rw [h, if_pos rfl] at hK; exact build_ok xs n a s hl hn ha hxr h _ rfl K hK
theorem rbuildA_fn (xs : List Nat) (n a : Nat) (s : Int) (hl : xs.length = n) (hn : n < 4294967296) (ha : a < 4294967296) (hxr : ∀ y ∈ xs, y < 4294967296) (K : Nat) (hK : (blL xs n a s).length = K) :
    Fn Try.prog 19 [.s (.sl 0 0 n), .s (.int .u32 a), .s (.int .i64 s)] [⟨false, 1, wsv xs⟩] (· = ⟨.a (.agg [.int .u32 (blA n a s : Nat), .int .i64 K, .sl 1 0 K]), [], [⟨true, 6, mcs (blL xs n a s)⟩]⟩) := by
  unfold blL at hK ⊢
  unfold blA
  cases h : bok n a s with
  | false => rw [h] at hK; subst hK; exact rbuild_no xs n a s hl hn ha h
  | true => rw [h, if_pos rfl] at hK; exact rbuild_ok xs n a s hl hn ha hxr h _ rfl K hK
set_option maxRecDepth 100000 in
theorem frame_fn (A : Nat) (hA : A < 4294967296) (L : Int) (N : Nat) (M : List SV) (hs : allScal M = true) : Fn Try.prog 20 [.agg [.int .u32 A, .int .i64 L, .sl 0 0 N]] [⟨false, 6, M⟩] (· = ⟨.a (.s (.int .i64 ((A / 128 : Nat) : Int))), [], []⟩) := by
  have e1 : (A : Int) / 128 = ((A / 128 : Nat) : Int) := by omega
  have e2 : IntKind.i64.wrap ((A : Int) / 128) = ((A / 128 : Nat) : Int) := by rw [wi64 (by omega) (by omega)]; omega
  refine fn_of_vc mixed tys_ok _ _ Try.func20 (by kernel_rfl) rfl Try.ntmps20 (by rw [Try.results20]) rfl ?_; dsimp only [argTm, argHl, Nat.zero_add, Nat.reduceAdd, List.length_nil, List.length_cons]
  (repeat' ((conv => whnf); first | ((with_reducible apply Vl.mk (α := Int)); · with_reducible exact e2) | (with_reducible apply sd_draw; · kernel_rfl) | (apply Sd.mk; · first | exact rfl | trivial | omega | (repeat' apply And.intro) <;> first | exact rfl | exact Nat.le_of_ble_eq_true rfl | omega | decide) | ((with_reducible apply Vl.mk (α := Int)); · (first | (with_reducible exact bits_keep _ _ _ _) | ((rewrite [tdiv_pos]); (focus (first | exact wi64 (by omega) (by omega) | exact wu32 (by omega) (by omega) | exact wi32 (by omega) (by omega))); omega) | exact tmod_pos (by omega) | exact wi64 (by omega) (by omega) | exact wu32 (by omega) (by omega) | exact wu32' _ | exact wu8 (by omega) (by omega) | exact wu64 (by omega) (by omega) | exact wi32 (by omega) (by omega) | rfl)) | ((with_reducible first | apply Vl.mk (α := Bool) | apply Vl.mk (α := Nat) | apply Vl.mk (α := ByteArray) | apply Ge.mk (α := Row) | apply Ge.mk (α := SV) | apply Ge.mk (α := AV)); · exact rfl) | (refine And.intro rfl ?_) | ((with_reducible first | apply Vl.mk (α := List SV) | apply Vl.mk (α := Ef) | apply Vl.mk (α := TV) | apply Ge.mk (α := List SV) | apply Sg.mk | apply Sk.mk); · (first | exact setAll_eq rfl | exact sg_all _ rfl | exact sk_all _ rfl rfl | ((first | apply sg_fc | apply sk_fc | (apply fc_eq; (conv => arg 1; whnf); apply fc_some) | apply fc_eq); (repeat' (first | exact fc_ren (wsv_scal _) | exact fc_ren (by assumption) | ((conv => arg 1; whnf); first | exact fc_nil | apply fc_cons | exact fc_int | exact fc_bool | exact fc_n | exact fc_ns | exact fc_ptr | exact fc_sl | exact fc_str | exact fc_unk | exact fc_fn | apply fc_s | apply fc_agg | apply fc_ta | apply fc_tup | exact fc_an | apply fc_ac | exact fc_tu | exact fc_nat | exact fc_bo | exact fc_none | apply fc_some | apply fc_pair | apply fc_row | apply fc_ef))); (all_goals exact rfl)) | ((dsimp only [Res.ef, renT, renA, renS, renN, nwN, upN, renRow, List.map_cons, List.map_nil, List.length_cons, List.length_nil]); first | done | exact rfl) | (dsimp only [setAll, List.set_cons_zero, List.set_cons_succ, List.cons_append, List.nil_append]; exact rfl) | exact rfl)) | ((first | apply Br.mk | apply Gd.mk) <;> (intro hb; first | (exact absurd hb (by decide)) | exact Bool.noConfusion (hb.symm.trans (by assumption) : true = false) | exact Bool.noConfusion (hb.symm.trans (by assumption) : false = true) | (simp only [decide_eq_true_eq, decide_eq_false_iff_not, beq_iff_eq, bne_iff_ne, beq_eq_false_iff_ne, bne_eq_false_iff_eq, Bool.not_eq_true', Bool.not_eq_false', Int.not_lt, Int.not_le, ge_iff_le, gt_iff_lt, ne_eq, Classical.not_not] at hb; first | (exfalso; omega) | skip) | skip)))); (all_goals (try (conv => whnf)))
  all_goals first | (apply Fin.mk (m := [(0, some 0)]); (focus exact rfl); (all_goals ((try (show HlS _ _ [] _)); first | ((repeat' (first | exact SVsM.nil | exact avsm_nil | exact svm_same rfl | exact svm_ptr rfl | exact svm_sl rfl | exact svm_slnil rfl | exact svsm_scal rfl | exact svsm_scal (wsv_scal _) | exact svsm_scal (by assumption) | exact hls_nil | apply SVsM.cons | apply tvm_a | apply tvm_tup | apply avm_agg | apply avm_s | apply avsm_cons | exact trivial | (refine hls_skip rfl ?_) | apply hls_none | apply hls_row | (refine rowmt_mk rfl rfl rfl rfl ?_) | exact rowmt_nil rfl rfl)); done) | exact rfl))) | trace_state
set_option maxRecDepth 100000 in
theorem rframe_fn (A : Nat) (hA : A < 4294967296) (L : Int) (N : Nat) (M : List SV) (hs : allScal M = true) : Fn Try.prog 21 [.agg [.int .u32 A, .int .i64 L, .sl 0 0 N]] [⟨false, 6, M⟩] (· = ⟨.a (.s (.int .i64 ((A / 128 : Nat) : Int))), [], []⟩) := by
  have e2 : IntKind.i64.wrap ((A : Int) / 128) = ((A / 128 : Nat) : Int) := by rw [wi64 (by omega) (by omega)]; omega
  refine fn_of_vc mixed tys_ok _ _ Try.func21 (by kernel_rfl) rfl Try.ntmps21 (by rw [Try.results21]) rfl ?_; dsimp only [argTm, argHl, Nat.zero_add, Nat.reduceAdd, List.length_nil, List.length_cons]
  (repeat' ((conv => whnf); first | ((with_reducible apply Vl.mk (α := Int)); · with_reducible exact e2) | (with_reducible apply sd_draw; · kernel_rfl) | (apply Sd.mk; · first | exact rfl | trivial | omega | (repeat' apply And.intro) <;> first | exact rfl | exact Nat.le_of_ble_eq_true rfl | omega | decide) | ((with_reducible apply Vl.mk (α := Int)); · (first | (with_reducible exact bits_keep _ _ _ _) | ((rewrite [tdiv_pos]); (focus (first | exact wi64 (by omega) (by omega) | exact wu32 (by omega) (by omega) | exact wi32 (by omega) (by omega))); omega) | exact tmod_pos (by omega) | exact wi64 (by omega) (by omega) | exact wu32 (by omega) (by omega) | exact wu32' _ | exact wu8 (by omega) (by omega) | exact wu64 (by omega) (by omega) | exact wi32 (by omega) (by omega) | rfl)) | ((with_reducible first | apply Vl.mk (α := Bool) | apply Vl.mk (α := Nat) | apply Vl.mk (α := ByteArray) | apply Ge.mk (α := Row) | apply Ge.mk (α := SV) | apply Ge.mk (α := AV)); · exact rfl) | (refine And.intro rfl ?_) | ((with_reducible first | apply Vl.mk (α := List SV) | apply Vl.mk (α := Ef) | apply Vl.mk (α := TV) | apply Ge.mk (α := List SV) | apply Sg.mk | apply Sk.mk); · (first | exact setAll_eq rfl | exact sg_all _ rfl | exact sk_all _ rfl rfl | ((first | apply sg_fc | apply sk_fc | (apply fc_eq; (conv => arg 1; whnf); apply fc_some) | apply fc_eq); (repeat' (first | exact fc_ren (wsv_scal _) | exact fc_ren (by assumption) | ((conv => arg 1; whnf); first | exact fc_nil | apply fc_cons | exact fc_int | exact fc_bool | exact fc_n | exact fc_ns | exact fc_ptr | exact fc_sl | exact fc_str | exact fc_unk | exact fc_fn | apply fc_s | apply fc_agg | apply fc_ta | apply fc_tup | exact fc_an | apply fc_ac | exact fc_tu | exact fc_nat | exact fc_bo | exact fc_none | apply fc_some | apply fc_pair | apply fc_row | apply fc_ef))); (all_goals exact rfl)) | ((dsimp only [Res.ef, renT, renA, renS, renN, nwN, upN, renRow, List.map_cons, List.map_nil, List.length_cons, List.length_nil]); first | done | exact rfl) | (dsimp only [setAll, List.set_cons_zero, List.set_cons_succ, List.cons_append, List.nil_append]; exact rfl) | exact rfl)) | ((first | apply Br.mk | apply Gd.mk) <;> (intro hb; first | (exact absurd hb (by decide)) | exact Bool.noConfusion (hb.symm.trans (by assumption) : true = false) | exact Bool.noConfusion (hb.symm.trans (by assumption) : false = true) | (simp only [decide_eq_true_eq, decide_eq_false_iff_not, beq_iff_eq, bne_iff_ne, beq_eq_false_iff_ne, bne_eq_false_iff_eq, Bool.not_eq_true', Bool.not_eq_false', Int.not_lt, Int.not_le, ge_iff_le, gt_iff_lt, ne_eq, Classical.not_not] at hb; first | (exfalso; omega) | skip) | skip)))); (all_goals (try (conv => whnf)))
  all_goals first | (apply Fin.mk (m := [(0, some 0)]); (focus exact rfl); (all_goals ((try (show HlS _ _ [] _)); first | ((repeat' (first | exact SVsM.nil | exact avsm_nil | exact svm_same rfl | exact svm_ptr rfl | exact svm_sl rfl | exact svm_slnil rfl | exact svsm_scal rfl | exact svsm_scal (wsv_scal _) | exact svsm_scal (by assumption) | exact hls_nil | apply SVsM.cons | apply tvm_a | apply tvm_tup | apply avm_agg | apply avm_s | apply avsm_cons | exact trivial | (refine hls_skip rfl ?_) | apply hls_none | apply hls_row | (refine rowmt_mk rfl rfl rfl rfl ?_) | exact rowmt_nil rfl rfl)); done) | exact rfl))) | trace_state
def zer (n : Nat) : List Nat := List.replicate n 0
theorem new2_run : runF eqt tys true fns noCt 1000 20 8 [.s (.int .i64 2)] [] = some ⟨.a (.s (.sl 0 0 64)), [], [⟨true, 1, wsv (zer 64)⟩]⟩ := by kernel_rfl
theorem new2_fn : Fn Try.prog 8 [.s (.int .i64 2)] [] (· = ⟨.a (.s (.sl 0 0 64)), [], [⟨true, 1, wsv (zer 64)⟩]⟩) := run_fn new2_run
theorem awake15_run : runF eqt tys true fns noCt 1000 20 16 [] [] = some ⟨.a (.s (.bool true)), [], []⟩ := by kernel_rfl
theorem awake15_fn : Fn Try.prog 16 [] [] (· = ⟨.a (.s (.bool true)), [], []⟩) := run_fn awake15_run
/-- A memory into which words were copied. -/
def cpM (n : Nat) (ys : List Nat) : List Nat := ys.take n ++ (zer n).drop (min ys.length n)
theorem cpM_len (n : Nat) (ys : List Nat) : (cpM n ys).length = n := by unfold cpM zer; simp; omega
theorem cpM_lt (n : Nat) (ys : List Nat) (h : ∀ y ∈ ys, y < 4294967296) : ∀ y ∈ cpM n ys, y < 4294967296 := fun y hy => by
  unfold cpM zer at hy
  rcases List.mem_append.1 hy with h1 | h1
  · exact h y (List.mem_of_mem_take h1)
  · have := List.eq_of_mem_replicate (List.mem_of_mem_drop h1)
    omega
theorem cpM_set (n : Nat) (ys : List Nat) : setAll (wsv (zer n)) 0 (wsv (ys.take n)) = wsv (cpM n ys) := by
  apply List.ext_getElem?
  intro i
  rw [setAll_get _ _ _ _ (by simp [zer]; omega)]
  unfold wsv cpM zer
  simp only [List.length_map, List.length_take, Nat.zero_add, Nat.zero_le, true_and, Nat.sub_zero]
  by_cases h : i < min n ys.length
  · rw [if_pos h, List.map_append, List.getElem?_append_left (by simp; omega)]
  · rw [if_neg h, List.map_append, List.getElem?_append_right (by simp; omega), List.length_map, List.length_take]
    simp only [List.getElem?_map, List.getElem?_drop]
    congr 2
    omega
end Go.Proofs.Ytppjiheebpabjaa
