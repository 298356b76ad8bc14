/- Blocks: validity of blocks whose registers are numbers of registers; SameBlock. -/
import Derived.Test.YtppjiheebpabjaaMayD
import Derived.Test.YtppjiheebpabjaaFns
namespace Go.Proofs.Ytppjiheebpabjaa
open Go Go.RowKit
set_option linter.unusedSimpArgs false
set_option linter.unusedVariables false

theorem okM_z (m : Mi) (b : Bool) (h : m.a < 16 ∧ m.b < 16 ∧ m.c < 16) : okM m.z b = true ↔ useOk m.o = true ∧ 1 ≤ m.n ∧ m.n ≤ 16 ∧ (b = true ∨ endsB m.o = false) := by
  have e : ∀ r : Nat, r < 16 → rgB (r : Int) = true := fun r hr => by unfold rgB; exact decide_eq_true (by omega)
  unfold okM Mi.z
  dsimp only
  rw [e _ h.1, e _ h.2.1, e _ h.2.2]
  simp only [Bool.and_eq_true, Bool.or_eq_true, decide_eq_true_eq, Bool.not_eq_true', and_true]
  constructor
  · rintro ⟨⟨⟨h1, h2⟩, h3⟩, h4⟩; exact ⟨h1, h2, h3, h4⟩
  · rintro ⟨h1, h2, h3, h4⟩; exact ⟨⟨⟨h1, h2⟩, h3⟩, h4⟩
def MiOk (m : Mi) : Prop := m.a < 16 ∧ m.b < 16 ∧ m.c < 16 ∧ m.k < 4294967296
theorem mayV_iff (A : Nat) (L : Int) (l : List Mz) : mayV A L l = true ↔ hdB A L = true ∧ maySum l 0 = some L := by
  unfold mayV; simp [beq_iff_eq]
theorem hdB_le {A : Nat} {L : Int} (h : hdB A L = true) : 1 ≤ L ∧ L ≤ 16 := by
  unfold hdB at h; simp only [decide_eq_true_eq] at h; omega
theorem mayI_fn (A : Nat) (hA : A < 4294967296) (L : Int) (l : List Mi) (N : Nat) (hN : l.length = N) (hN2 : N ≤ 1000000) (h : mayV A L (l.map Mi.z) = true) :
    Fn Try.prog 13 [.agg [.int .u32 A, .int .i64 L, .sl 0 0 N]] [⟨false, 6, mcs l⟩] (· = ⟨.a (.s (.bool true)), [], []⟩) := by
  have := may_fn A hA L (l.map Mi.z) N (by rw [List.length_map]; exact hN) hN2
  rw [h, mzs_mcs] at this
  exact this
theorem bmayI_fn (A : Nat) (hA : A < 4294967296) (L : Int) (l : List Mi) (N : Nat) (hN : l.length = N) (hN2 : N ≤ 1000000) (h : mayV A L (l.map Mi.z) = true) :
    Fn Try.prog 23 [.agg [.int .u32 A, .int .i64 L, .sl 0 0 N]] [⟨false, 6, mcs l⟩] (· = ⟨.a (.s (.bool true)), [], []⟩) := by
  have := bmay_fn A hA L (l.map Mi.z) N (by rw [List.length_map]; exact hN) hN2
  rw [h, mzs_mcs] at this
  exact this
theorem maySum_n : ∀ (l : List Mi) (s L : Int), maySum (l.map Mi.z) s = some L → ∀ m ∈ l, 1 ≤ m.n ∧ m.n ≤ 16
  | [], _, _, _, m, hm => by cases hm
  | m0 :: l, s, L, h, m, hm => by
    rw [List.map_cons, maySum] at h
    split at h
    · rename_i ho
      rcases List.mem_cons.1 hm with e | e
      · subst e; exact okM_n ho
      · exact maySum_n l _ _ h m e
    · cases h
theorem toMi : ∀ (l : List Mz) (s L : Int), (∀ m ∈ l, m.k < 4294967296) → maySum l s = some L → ∃ l' : List Mi, l'.map Mi.z = l ∧ ∀ m ∈ l', MiOk m
  | [], _, _, _, _ => ⟨[], rfl, fun m h => by cases h⟩
  | m :: l, s, L, hk, h => by
    rw [maySum] at h
    split at h
    · rename_i ho
      obtain ⟨l', h1, h2⟩ := toMi l _ L (fun q hq => hk q (by simp [hq])) h
      unfold okM rgB at ho
      simp only [Bool.and_eq_true, decide_eq_true_eq] at ho
      have hkm := hk m (by simp)
      obtain ⟨o, a, b, c, k, n⟩ := m
      dsimp only at ho hkm
      refine ⟨⟨o, a.toNat, b.toNat, c.toNat, k, n⟩ :: l', ?_, fun q hq => ?_⟩
      · rw [List.map_cons, h1]
        congr 1
        show Mz.mk o (a.toNat : Int) (b.toNat : Int) (c.toNat : Int) k n = _
        rw [Int.toNat_of_nonneg (by omega), Int.toNat_of_nonneg (by omega), Int.toNat_of_nonneg (by omega)]
      · rcases List.mem_cons.1 hq with e | e
        · subst e; exact ⟨by dsimp only; omega, by dsimp only; omega, by dsimp only; omega, hkm⟩
        · exact h2 q e
    · cases h
theorem may0 (A : Nat) (L : Int) : mayV A L [] = false := mayV_len (.inl (by simp))
def ks6 : List SK := [.int, .int, .int, .int, .int, .int]
theorem eq6 (m : Mz) : eqCells ks6 m.C m.C = some true := by
  have e : ∀ (k : IntKind) (x : Int), k = .i64 ∨ k = .u32 → eqS .int (SV.int k x) (SV.int k x) = some true := fun k x h => by
    rcases h with rfl | rfl
    all_goals
      show some (x == x) = some true
      simp
  unfold Mz.C ks6
  simp only [eqCells, e _ _ (.inl rfl), e _ _ (.inr rfl), Bool.and_self]
def sbst (A : Nat) (L : Int) (N : Nat) (LL : List SV) (i : Nat) : St :=
  ⟨[(2, .a (.s (.ptr 2 0))), (3, .a (.s (.ptr 3 0))), (5, .a (.s (.int .i64 i)))],
   [(0, some ⟨false, 6, LL⟩), (1, some ⟨false, 6, LL⟩), (2, some ⟨true, 1, [.int .u32 A, .int .i64 L, .sl 0 0 N]⟩), (3, some ⟨true, 1, [.int .u32 A, .int .i64 L, .sl 1 0 N]⟩)], [0]⟩
set_option maxHeartbeats 600000 in
set_option maxRecDepth 100000 in
theorem sameblk_fn (A : Nat) (L : Int) (l : List Mz) (N : Nat) (hN : l.length = N) (hN2 : N ≤ 1000000) :
    Fn Try.prog 18 [.agg [.int .u32 A, .int .i64 L, .sl 0 0 N], .agg [.int .u32 A, .int .i64 L, .sl 1 0 N]] [⟨false, 6, mzs l⟩, ⟨false, 6, mzs l⟩] (· = ⟨.a (.s (.bool true)), [], []⟩) := by
  have hsc := mzs_scal l
  have hseg := mzs_seg l
  generalize hLL : mzs l = LL at *
  refine fn_of_vc mixed tys_ok _ _ Try.func18 (by kernel_rfl) rfl Try.ntmps18 (by rw [Try.results18]) rfl ?_; dsimp only [argTm, argHl, Nat.zero_add, Nat.reduceAdd, List.length_nil, List.length_cons]
  (repeat' ((conv => whnf); first | ((first | apply Br.mk | apply Gd.mk) <;> (intro hb; first | (exact absurd hb (by decide)) | exact Bool.noConfusion (hb.symm.trans (by assumption) : true = false) | exact Bool.noConfusion (hb.symm.trans (by assumption) : false = true) | (exfalso; revert hb; simp only [beq_self_eq_true, Bool.and_true, Bool.and_self, reduceCtorEq, false_implies, bne_self_eq_false, imp_false, not_true_eq_false, not_false_eq_true, Bool.true_eq_false, Bool.false_eq_true]; done) | (simp only [decide_eq_true_eq, decide_eq_false_iff_not, beq_iff_eq, bne_iff_ne, beq_eq_false_iff_ne, bne_eq_false_iff_eq, Bool.not_eq_true', Bool.not_eq_false', Int.not_lt, Int.not_le, ge_iff_le, gt_iff_lt, ne_eq, Classical.not_not] at hb; first | (exfalso; omega) | skip) | skip))  |  (refine Eqs.mk _ (eqt_ok _ _ rfl _ _ _ rfl) ?_) | (with_reducible apply sd_draw; · kernel_rfl) | (apply Sd.mk; · first | exact rfl | trivial | omega | (repeat' apply And.intro) <;> first | exact rfl | exact Nat.le_of_ble_eq_true rfl | omega | decide) | ((with_reducible apply Vl.mk (α := Int)); · (first | (with_reducible exact bits_keep _ _ _ _) | ((rewrite [tdiv_pos]); (focus (first | exact wi64 (by omega) (by omega) | exact wu32 (by omega) (by omega) | exact wi32 (by omega) (by omega))); omega) | exact tmod_pos (by omega) | exact wi64 (by omega) (by omega) | exact wu32 (by omega) (by omega) | exact wu32' _ | exact wu8 (by omega) (by omega) | exact wu64 (by omega) (by omega) | exact wi32 (by omega) (by omega) | rfl)) | ((with_reducible first | apply Vl.mk (α := Bool) | apply Vl.mk (α := Nat) | apply Vl.mk (α := ByteArray) | apply Ge.mk (α := Row) | apply Ge.mk (α := SV) | apply Ge.mk (α := AV)); · exact rfl) | (refine And.intro rfl ?_) | ((with_reducible first | apply Vl.mk (α := List SV) | apply Vl.mk (α := Ef) | apply Vl.mk (α := TV) | apply Ge.mk (α := List SV) | apply Sg.mk | apply Sk.mk); · (first | exact setAll_eq rfl | exact sg_all _ rfl | exact sk_all _ rfl rfl | ((first | apply sg_fc | apply sk_fc | (apply fc_eq; (conv => arg 1; whnf); apply fc_some) | apply fc_eq); (repeat' (first | exact fc_ren (wsv_scal _) | exact fc_ren (by assumption) | ((conv => arg 1; whnf); first | exact fc_nil | apply fc_cons | exact fc_int | exact fc_bool | exact fc_n | exact fc_ns | exact fc_ptr | exact fc_sl | exact fc_str | exact fc_unk | exact fc_fn | apply fc_s | apply fc_agg | apply fc_ta | apply fc_tup | exact fc_an | apply fc_ac | exact fc_tu | exact fc_nat | exact fc_bo | exact fc_none | apply fc_some | apply fc_pair | apply fc_row | apply fc_ef))); (all_goals exact rfl)) | ((dsimp only [Res.ef, renT, renA, renS, renN, nwN, upN, renRow, List.map_cons, List.map_nil, List.length_cons, List.length_nil]); first | done | exact rfl) | (dsimp only [setAll, List.set_cons_zero, List.set_cons_succ, List.cons_append, List.nil_append]; exact rfl) | exact rfl)) | ((first | apply Br.mk | apply Gd.mk) <;> (intro hb; first | (exact absurd hb (by decide)) | exact Bool.noConfusion (hb.symm.trans (by assumption) : true = false) | exact Bool.noConfusion (hb.symm.trans (by assumption) : false = true) | (simp only [decide_eq_true_eq, decide_eq_false_iff_not, beq_iff_eq, bne_iff_ne, beq_eq_false_iff_ne, bne_eq_false_iff_eq, Bool.not_eq_true', Bool.not_eq_false', Int.not_lt, Int.not_le, ge_iff_le, gt_iff_lt, ne_eq, Classical.not_not] at hb; first | (exfalso; omega) | skip) | skip)))); (all_goals (try (conv => whnf)))
  refine Lp.inv (fun mm σ => ∃ (i : Nat), mm + i = N ∧ σ = sbst A L N LL i) ?_ ?_
  · refine ⟨N, sbst A L N LL 0, ?_, 0, by omega, rfl⟩
    apply wk_of (m := [(0, some 0), (1, some 1), (2, some 65536), (3, some 65600)])
    · repeat' (first | exact tml_nil | apply tml_cons)
      all_goals first | exact tvm_a (avm_s (svm_same rfl)) | exact tvm_a (avm_s (svm_ptr rfl)) | exact tvm_a (avm_s (svm_sl rfl))
    · show HlS _ _ [] _
      refine hls_row (rowmt_mk rfl rfl rfl rfl (svsm_scal hsc)) ?_
      refine hls_row (rowmt_mk rfl rfl rfl rfl (svsm_scal hsc)) ?_
      refine hls_row (rowmt_mk rfl rfl rfl rfl (.cons (svm_same rfl) (.cons (svm_same rfl) (.cons (svm_sl rfl) .nil)))) ?_
      refine hls_row (rowmt_mk rfl rfl rfl rfl (.cons (svm_same rfl) (.cons (svm_same rfl) (.cons (svm_sl rfl) .nil)))) ?_
      exact hls_nil
    · rfl
  · rintro mm σ ⟨i, hmi, rfl⟩
    unfold sbst
    by_cases hiN : i < N
    · obtain ⟨m, hm⟩ : ∃ m, l[i]? = some m := ⟨l[i]'(by omega), List.getElem?_eq_getElem (by omega)⟩
      have seg := hseg i _ hm
      have he := eq6 m
      obtain ⟨o, a, b, c, k, n⟩ := m
      dsimp only [Mz.C] at seg he
      have q2 : IntKind.i64.wrap ((i : Int) + 1) = ((i + 1 : Nat) : Int) := by rw [wi64 (by omega) (by omega)]; omega
      have x1 : 0 + ((i : Nat) : Int).toNat * ty39.size = i * 6 := by show 0 + ((i : Nat) : Int).toNat * 6 = _; omega
      (repeat' ((conv => whnf); first | (refine Eqs.mk true (eqt_ok _ ks6 rfl _ _ _ (by with_reducible exact he)) ?_)  |  ((with_reducible apply Vl.mk (α := Int)); · with_reducible first | exact q2)  |  ((with_reducible apply Vl.mk (α := Nat)); · with_reducible exact x1)  |  (apply Sg.mk; · exact seg) | (with_reducible apply sd_draw; · kernel_rfl) | (apply Sd.mk; · first | exact rfl | trivial | omega | (repeat' apply And.intro) <;> first | exact rfl | exact Nat.le_of_ble_eq_true rfl | omega | decide) | ((with_reducible apply Vl.mk (α := Int)); · (first | (with_reducible exact bits_keep _ _ _ _) | ((rewrite [tdiv_pos]); (focus (first | exact wi64 (by omega) (by omega) | exact wu32 (by omega) (by omega) | exact wi32 (by omega) (by omega))); omega) | exact tmod_pos (by omega) | exact wi64 (by omega) (by omega) | exact wu32 (by omega) (by omega) | exact wu32' _ | exact wu8 (by omega) (by omega) | exact wu64 (by omega) (by omega) | exact wi32 (by omega) (by omega) | rfl)) | ((with_reducible first | apply Vl.mk (α := Bool) | apply Vl.mk (α := Nat) | apply Vl.mk (α := ByteArray) | apply Ge.mk (α := Row) | apply Ge.mk (α := SV) | apply Ge.mk (α := AV)); · exact rfl) | (refine And.intro rfl ?_) | ((with_reducible first | apply Vl.mk (α := List SV) | apply Vl.mk (α := Ef) | apply Vl.mk (α := TV) | apply Ge.mk (α := List SV) | apply Sg.mk | apply Sk.mk); · (first | exact setAll_eq rfl | exact sg_all _ rfl | exact sk_all _ rfl rfl | ((first | apply sg_fc | apply sk_fc | (apply fc_eq; (conv => arg 1; whnf); apply fc_some) | apply fc_eq); (repeat' (first | exact fc_ren (wsv_scal _) | exact fc_ren (by assumption) | ((conv => arg 1; whnf); first | exact fc_nil | apply fc_cons | exact fc_int | exact fc_bool | exact fc_n | exact fc_ns | exact fc_ptr | exact fc_sl | exact fc_str | exact fc_unk | exact fc_fn | apply fc_s | apply fc_agg | apply fc_ta | apply fc_tup | exact fc_an | apply fc_ac | exact fc_tu | exact fc_nat | exact fc_bo | exact fc_none | apply fc_some | apply fc_pair | apply fc_row | apply fc_ef))); (all_goals exact rfl)) | ((dsimp only [Res.ef, renT, renA, renS, renN, nwN, upN, renRow, List.map_cons, List.map_nil, List.length_cons, List.length_nil]); first | done | exact rfl) | (dsimp only [setAll, List.set_cons_zero, List.set_cons_succ, List.cons_append, List.nil_append]; exact rfl) | exact rfl)) | ((first | apply Br.mk | apply Gd.mk) <;> (intro hb; first | (exact absurd hb (by decide)) | exact Bool.noConfusion (hb.symm.trans (by assumption) : true = false) | exact Bool.noConfusion (hb.symm.trans (by assumption) : false = true) | (simp only [decide_eq_true_eq, decide_eq_false_iff_not, beq_iff_eq, bne_iff_ne, beq_eq_false_iff_ne, bne_eq_false_iff_eq, Bool.not_eq_true', Bool.not_eq_false', Int.not_lt, Int.not_le, ge_iff_le, gt_iff_lt, ne_eq, Classical.not_not] at hb; first | (exfalso; omega) | skip) | skip)))); (all_goals (try (conv => whnf)))
      all_goals first
        | (refine ⟨mm - 1, sbst A L N LL (i + 1), by omega, ?_, i + 1, by omega, rfl⟩
           apply wk_of (m := [(0, some 0), (1, some 1), (2, some 2), (3, some 3)])
           · repeat' (first | exact tml_nil | apply tml_cons)
             all_goals first | exact tvm_a (avm_s (svm_same rfl)) | exact tvm_a (avm_s (svm_ptr rfl)) | exact tvm_a (avm_s (svm_sl rfl))
           · show HlS _ _ [] _
             refine hls_row (rowmt_mk rfl rfl rfl rfl (svsm_scal hsc)) ?_
             refine hls_row (rowmt_mk rfl rfl rfl rfl (svsm_scal hsc)) ?_
             refine hls_row (rowmt_mk rfl rfl rfl rfl (.cons (svm_same rfl) (.cons (svm_same rfl) (.cons (svm_sl rfl) .nil)))) ?_
             refine hls_row (rowmt_mk rfl rfl rfl rfl (.cons (svm_same rfl) (.cons (svm_same rfl) (.cons (svm_sl rfl) .nil)))) ?_
             exact hls_nil
           · rfl)
        | trace_state
    · (repeat' ((conv => whnf); first | (with_reducible apply sd_draw; · kernel_rfl) | (apply Sd.mk; · first | exact rfl | trivial | omega | (repeat' apply And.intro) <;> first | exact rfl | exact Nat.le_of_ble_eq_true rfl | omega | decide) | ((with_reducible apply Vl.mk (α := Int)); · (first | (with_reducible exact bits_keep _ _ _ _) | ((rewrite [tdiv_pos]); (focus (first | exact wi64 (by omega) (by omega) | exact wu32 (by omega) (by omega) | exact wi32 (by omega) (by omega))); omega) | exact tmod_pos (by omega) | exact wi64 (by omega) (by omega) | exact wu32 (by omega) (by omega) | exact wu32' _ | exact wu8 (by omega) (by omega) | exact wu64 (by omega) (by omega) | exact wi32 (by omega) (by omega) | rfl)) | ((with_reducible first | apply Vl.mk (α := Bool) | apply Vl.mk (α := Nat) | apply Vl.mk (α := ByteArray) | apply Ge.mk (α := Row) | apply Ge.mk (α := SV) | apply Ge.mk (α := AV)); · exact rfl) | (refine And.intro rfl ?_) | ((with_reducible first | apply Vl.mk (α := List SV) | apply Vl.mk (α := Ef) | apply Vl.mk (α := TV) | apply Ge.mk (α := List SV) | apply Sg.mk | apply Sk.mk); · (first | exact setAll_eq rfl | exact sg_all _ rfl | exact sk_all _ rfl rfl | ((first | apply sg_fc | apply sk_fc | (apply fc_eq; (conv => arg 1; whnf); apply fc_some) | apply fc_eq); (repeat' (first | exact fc_ren (wsv_scal _) | exact fc_ren (by assumption) | ((conv => arg 1; whnf); first | exact fc_nil | apply fc_cons | exact fc_int | exact fc_bool | exact fc_n | exact fc_ns | exact fc_ptr | exact fc_sl | exact fc_str | exact fc_unk | exact fc_fn | apply fc_s | apply fc_agg | apply fc_ta | apply fc_tup | exact fc_an | apply fc_ac | exact fc_tu | exact fc_nat | exact fc_bo | exact fc_none | apply fc_some | apply fc_pair | apply fc_row | apply fc_ef))); (all_goals exact rfl)) | ((dsimp only [Res.ef, renT, renA, renS, renN, nwN, upN, renRow, List.map_cons, List.map_nil, List.length_cons, List.length_nil]); first | done | exact rfl) | (dsimp only [setAll, List.set_cons_zero, List.set_cons_succ, List.cons_append, List.nil_append]; exact rfl) | exact rfl)) | ((first | apply Br.mk | apply Gd.mk) <;> (intro hb; first | (exact absurd hb (by decide)) | exact Bool.noConfusion (hb.symm.trans (by assumption) : true = false) | exact Bool.noConfusion (hb.symm.trans (by assumption) : false = true) | (simp only [decide_eq_true_eq, decide_eq_false_iff_not, beq_iff_eq, bne_iff_ne, beq_eq_false_iff_ne, bne_eq_false_iff_eq, Bool.not_eq_true', Bool.not_eq_false', Int.not_lt, Int.not_le, ge_iff_le, gt_iff_lt, ne_eq, Classical.not_not] at hb; first | (exfalso; omega) | skip) | skip)))); (all_goals (try (conv => whnf)))
      all_goals first | ((apply Fin.mk (m := [(0, some 0), (1, some 1)]); (focus exact rfl); (all_goals ((try (show HlS _ _ [] _)); first | ((repeat' (first | exact SVsM.nil | exact avsm_nil | exact svm_same rfl | exact svm_ptr rfl | exact svm_sl rfl | exact svm_slnil rfl | exact svsm_scal rfl | exact svsm_scal (wsv_scal _) | exact svsm_scal (by assumption) | exact hls_nil | apply SVsM.cons | apply tvm_a | apply tvm_tup | apply avm_agg | apply avm_s | apply avsm_cons | exact trivial | (refine hls_skip rfl ?_) | apply hls_none | apply hls_row | (refine rowmt_mk rfl rfl rfl rfl ?_) | exact rowmt_nil rfl rfl)); done) | exact rfl)))) | trace_state
end Go.Proofs.Ytppjiheebpabjaa
