/- BlockCovers. Printed by mkcv.py. -/
import Derived.Test.YtppjiheebpabjaaCvA
namespace Go.Proofs.Ytppjiheebpabjaa
open Go Go.RowKit
set_option linter.unusedSimpArgs false
set_option linter.unusedVariables false

def cs1 (n : Nat) (s : Int) (LL : List SV) (j : Nat) (M : List SV) : St :=
  ⟨[(0, .a (.s (.sl 0 0 n))), (1, .a (.s (.int .i64 s))), (5, .a (.s (.sl 1 0 32))), (6, .a (.s (.int .i64 j)))], [(0, some ⟨false, 1, LL⟩), (1, some ⟨true, 1, M⟩)], [0]⟩
def cs2 (s : Int) (LL MM : List SV) (at' : Nat) : St :=
  ⟨[(1, .a (.s (.int .i64 s))), (5, .a (.s (.sl 1 0 32))), (7, .a (.s (.int .i64 at')))], [(0, some ⟨false, 1, LL⟩), (1, some ⟨true, 1, MM⟩)], [0]⟩
def cs3 (s : Int) (LL MM : List SV) (at' K : Nat) (LM : List SV) (oL aL bL cL kL : Int) (i : Nat) : St :=
  ⟨[(1, .a (.s (.int .i64 s))), (5, .a (.s (.sl 1 0 32))), (7, .a (.s (.int .i64 at'))), (8, .a (.s (.ptr 2 0))), (9, .a (.s (.ptr 3 0))), (10, .a (.s (.int .i64 i)))],
   [(0, some ⟨false, 1, LL⟩), (1, some ⟨true, 1, MM⟩), (2, some ⟨true, 1, [.int .u32 (4 * at' : Nat), .int .i64 K, .sl 4 0 K]⟩), (3, some ⟨true, 1, [.int .i64 oL, .int .i64 aL, .int .i64 bL, .int .i64 cL, .int .u32 kL, .int .i64 1]⟩), (4, some ⟨true, 6, LM⟩)], [0]⟩
theorem wsv_set5 (y : List Nat) (a w : Nat) (ha : a < y.length) : setAll (wsv y) (0 + ((a : Nat) : Int).toNat * ty26.size) [.int .u32 (w : Nat)] = wsv (y.set a w) := by
  have e : 0 + ((a : Nat) : Int).toNat * ty26.size = a := by show 0 + ((a : Nat) : Int).toNat * 1 = a; omega
  rw [e]
  apply List.ext_getElem?
  intro i
  rw [setAll_get _ _ _ _ (by simp; omega)]
  unfold wsv
  simp only [List.length_cons, List.length_nil, Nat.zero_add]
  by_cases h : i = a
  · subst h
    rw [if_pos (by omega), List.getElem?_map, List.getElem?_set_self (by omega)]
    simp
  · rw [if_neg (by omega), List.getElem?_map, List.getElem?_map, List.getElem?_set_ne (by omega)]
set_option maxHeartbeats 2000000 in
set_option maxRecDepth 100000 in
theorem covers15_fn (ls : List Int) (n : Nat) (hn : ls.length = n) (hn2 : n ≤ 9223372036854775807) (most : Int) :
    Fn Try.prog 3 [.s (.sl 0 0 n), .s (.int .i64 most)] [⟨false, 1, isv .i64 ls⟩] (· = ⟨.a (.s (.bool true)), [], []⟩) := by
  have hsc := isv_scal .i64 ls
  have crn := rnd_fn most 20 (by omega) (by omega)
  obtain ⟨s, hs⟩ : ∃ s, 1 + most % 20 = s := ⟨_, rfl⟩
  have hs1 : 1 ≤ s ∧ s ≤ 20 := by omega
  have q1 : IntKind.i64.wrap (1 + most % 20) = s := by rw [hs, wi64 (by omega) (by omega)]
  have cat := fun i => at_fn ls n i hn hn2
  generalize most % 20 = m20 at *
  generalize hLL : isv .i64 ls = LL at *
  refine fn_of_vc mixed tys_ok _ _ Try.func3 (by kernel_rfl) rfl Try.ntmps3 (by rw [Try.results3]) rfl ?_; dsimp only [argTm, argHl, Nat.zero_add, Nat.reduceAdd, List.length_nil, List.length_cons]
  (repeat' ((conv => whnf); first | ((with_reducible apply Vl.mk (α := Int)); · with_reducible exact q1)  |  (refine vcall_pure (f := 7) (crn) rfl ?_)  |  (refine vcall_det (f := 8) new1_fn [] [] rfl trivial trivial ⟨rfl, noUp⟩ ?_) | (with_reducible apply sd_draw; · kernel_rfl) | (apply Sd.mk; · first | exact rfl | trivial | omega | (repeat' apply And.intro) <;> first | exact rfl | exact Nat.le_of_ble_eq_true rfl | omega | decide) | ((with_reducible apply Vl.mk (α := Int)); · (first | (with_reducible exact bits_keep _ _ _ _) | ((rewrite [tdiv_pos]); (focus (first | exact wi64 (by omega) (by omega) | exact wu32 (by omega) (by omega) | exact wi32 (by omega) (by omega))); omega) | exact tmod_pos (by omega) | exact wi64 (by omega) (by omega) | exact wu32 (by omega) (by omega) | exact wu32' _ | exact wu8 (by omega) (by omega) | exact wu64 (by omega) (by omega) | exact wi32 (by omega) (by omega) | rfl)) | ((with_reducible first | apply Vl.mk (α := Bool) | apply Vl.mk (α := Nat) | apply Vl.mk (α := ByteArray) | apply Ge.mk (α := Row) | apply Ge.mk (α := SV) | apply Ge.mk (α := AV)); · exact rfl) | (refine And.intro rfl ?_) | ((with_reducible first | apply Vl.mk (α := List SV) | apply Vl.mk (α := Ef) | apply Vl.mk (α := TV) | apply Ge.mk (α := List SV) | apply Sg.mk | apply Sk.mk); · (first | exact setAll_eq rfl | exact sg_all _ rfl | exact sk_all _ rfl rfl | ((first | apply sg_fc | apply sk_fc | (apply fc_eq; (conv => arg 1; whnf); apply fc_some) | apply fc_eq); (repeat' (first | exact fc_ren (wsv_scal _) | exact fc_ren (by assumption) | ((conv => arg 1; whnf); first | exact fc_nil | apply fc_cons | exact fc_int | exact fc_bool | exact fc_n | exact fc_ns | exact fc_ptr | exact fc_sl | exact fc_str | exact fc_unk | exact fc_fn | apply fc_s | apply fc_agg | apply fc_ta | apply fc_tup | exact fc_an | apply fc_ac | exact fc_tu | exact fc_nat | exact fc_bo | exact fc_none | apply fc_some | apply fc_pair | apply fc_row | apply fc_ef))); (all_goals exact rfl)) | ((dsimp only [Res.ef, renT, renA, renS, renN, nwN, upN, renRow, List.map_cons, List.map_nil, List.length_cons, List.length_nil]); first | done | exact rfl) | (dsimp only [setAll, List.set_cons_zero, List.set_cons_succ, List.cons_append, List.nil_append]; exact rfl) | exact rfl)) | ((first | apply Br.mk | apply Gd.mk) <;> (intro hb; first | (exact absurd hb (by decide)) | exact Bool.noConfusion (hb.symm.trans (by assumption) : true = false) | exact Bool.noConfusion (hb.symm.trans (by assumption) : false = true) | (simp only [decide_eq_true_eq, decide_eq_false_iff_not, beq_iff_eq, bne_iff_ne, beq_eq_false_iff_ne, bne_eq_false_iff_eq, Bool.not_eq_true', Bool.not_eq_false', Int.not_lt, Int.not_le, ge_iff_le, gt_iff_lt, ne_eq, Classical.not_not] at hb; first | (exfalso; omega) | skip) | skip)))); (all_goals (try (conv => whnf)))
  refine Lp.inv (fun mm σ => ∃ j : Nat, mm + j = 32 ∧ σ = cs1 n s LL j (wsv (cvM ls j))) ?_ ?_
  · refine ⟨32, cs1 n s LL 0 (wsv (zer 32)), ?_, 0, by omega, by rw [cvM_zero]⟩
    apply wk_of (m := [(0, some 0), (1, some 196608)])
    · repeat' (first | exact tml_nil | apply tml_cons)
      all_goals first | exact tvm_a (avm_s (svm_same rfl)) | exact tvm_a (avm_s (svm_ptr rfl)) | exact tvm_a (avm_s (svm_sl rfl))
    · show HlS _ _ [] _
      refine hls_row (rowmt_mk rfl rfl rfl rfl (svsm_scal hsc)) ?_
      refine hls_row (rowmt_mk rfl rfl rfl rfl (svsm_scal (wsv_scal _))) ?_
      exact hls_nil
    · rfl
  · rintro mm σ ⟨j, hmj, rfl⟩
    unfold cs1
    by_cases hj : j < 32
    · have caj := cat j
      have hset := wsv_set5 (cvM ls j) j (cv ls j) (by rw [cvM_len]; omega)
      rw [cvM_set ls j hj] at hset
      have hlen : (wsv (cvM ls j)).length = 32 := by simp [cvM_len]
      have hs2 := wsv_scal (cvM ls (j + 1))
      have q2 : IntKind.i64.wrap ((j : Int) + 1) = ((j + 1 : Nat) : Int) := by rw [wi64 (by omega) (by omega)]; omega
      obtain ⟨z, hz⟩ : ∃ z, IntKind.i64.wrap (atV ls (j : Int) + (j : Int)) = z := ⟨_, rfl⟩
      have hin := inst_fn z
      have hen := (encI_fn z).1
      have hcv : cv ls j = encI (instV z) := by unfold cv; rw [hz]
      obtain ⟨o, a, b, c, m, he3⟩ := (encI_fn z).2.2
      rw [hcv] at hset
      rw [he3] at hin hen hset
      generalize encI (iv o a b c m) = E at *
      generalize atV ls (j : Int) = AT at *
      clear cat hcv
      generalize hM2 : wsv (cvM ls (j + 1)) = M2 at *
      generalize wsv (cvM ls j) = M1 at *
      unfold iv at hin hen
      (repeat' ((conv => whnf); first | ((with_reducible apply Vl.mk (α := Int)); · with_reducible first | exact q2 | exact hz)  |  (refine vcall_det (f := 11) caj [⟨_, 0⟩] [(_, ⟨false, 1, LL⟩)] rfl ⟨rfl, trivial⟩ ⟨rfl, rowM_ro hsc, trivial⟩ ⟨rfl, noUp⟩ ?_)  |  (refine vcall_pure (f := 10) (hin) rfl ?_)  |  (refine vcall_pure (f := 9) (hen) rfl ?_)  |  (apply Sd.mk; · first | (refine ⟨rfl, rfl, rfl, ?_⟩; show 0 + ((j : Nat) : Int).toNat * 1 + 1 ≤ M1.length; omega) | (show (0 : Int) ≤ j ∧ (j : Int) < 32; omega))  |  ((with_reducible apply Vl.mk (α := List SV)); · exact hset) | (with_reducible apply sd_draw; · kernel_rfl) | (apply Sd.mk; · first | exact rfl | trivial | omega | (repeat' apply And.intro) <;> first | exact rfl | exact Nat.le_of_ble_eq_true rfl | omega | decide) | ((with_reducible apply Vl.mk (α := Int)); · (first | (with_reducible exact bits_keep _ _ _ _) | ((rewrite [tdiv_pos]); (focus (first | exact wi64 (by omega) (by omega) | exact wu32 (by omega) (by omega) | exact wi32 (by omega) (by omega))); omega) | exact tmod_pos (by omega) | exact wi64 (by omega) (by omega) | exact wu32 (by omega) (by omega) | exact wu32' _ | exact wu8 (by omega) (by omega) | exact wu64 (by omega) (by omega) | exact wi32 (by omega) (by omega) | rfl)) | ((with_reducible first | apply Vl.mk (α := Bool) | apply Vl.mk (α := Nat) | apply Vl.mk (α := ByteArray) | apply Ge.mk (α := Row) | apply Ge.mk (α := SV) | apply Ge.mk (α := AV)); · exact rfl) | (refine And.intro rfl ?_) | ((with_reducible first | apply Vl.mk (α := List SV) | apply Vl.mk (α := Ef) | apply Vl.mk (α := TV) | apply Ge.mk (α := List SV) | apply Sg.mk | apply Sk.mk); · (first | exact setAll_eq rfl | exact sg_all _ rfl | exact sk_all _ rfl rfl | ((first | apply sg_fc | apply sk_fc | (apply fc_eq; (conv => arg 1; whnf); apply fc_some) | apply fc_eq); (repeat' (first | exact fc_ren (wsv_scal _) | exact fc_ren (by assumption) | ((conv => arg 1; whnf); first | exact fc_nil | apply fc_cons | exact fc_int | exact fc_bool | exact fc_n | exact fc_ns | exact fc_ptr | exact fc_sl | exact fc_str | exact fc_unk | exact fc_fn | apply fc_s | apply fc_agg | apply fc_ta | apply fc_tup | exact fc_an | apply fc_ac | exact fc_tu | exact fc_nat | exact fc_bo | exact fc_none | apply fc_some | apply fc_pair | apply fc_row | apply fc_ef))); (all_goals exact rfl)) | ((dsimp only [Res.ef, renT, renA, renS, renN, nwN, upN, renRow, List.map_cons, List.map_nil, List.length_cons, List.length_nil]); first | done | exact rfl) | (dsimp only [setAll, List.set_cons_zero, List.set_cons_succ, List.cons_append, List.nil_append]; exact rfl) | exact rfl)) | ((first | apply Br.mk | apply Gd.mk) <;> (intro hb; first | (exact absurd hb (by decide)) | exact Bool.noConfusion (hb.symm.trans (by assumption) : true = false) | exact Bool.noConfusion (hb.symm.trans (by assumption) : false = true) | (simp only [decide_eq_true_eq, decide_eq_false_iff_not, beq_iff_eq, bne_iff_ne, beq_eq_false_iff_ne, bne_eq_false_iff_eq, Bool.not_eq_true', Bool.not_eq_false', Int.not_lt, Int.not_le, ge_iff_le, gt_iff_lt, ne_eq, Classical.not_not] at hb; first | (exfalso; omega) | skip) | skip)))); (all_goals (try (conv => whnf)))
      all_goals first
        | (refine ⟨mm - 1, cs1 n s LL (j + 1) M2, by omega, ?_, j + 1, by omega, by rw [hM2]; rfl⟩
           apply wk_of (m := [(0, some 0), (1, some 1)])
           · repeat' (first | exact tml_nil | apply tml_cons)
             all_goals first | exact tvm_a (avm_s (svm_same rfl)) | exact tvm_a (avm_s (svm_ptr rfl)) | exact tvm_a (avm_s (svm_sl rfl))
           · show HlS _ _ [] _
             refine hls_row (rowmt_mk rfl rfl rfl rfl (svsm_scal hsc)) ?_
             refine hls_row (rowmt_mk rfl rfl rfl rfl (svsm_scal hs2)) ?_
             exact hls_nil
           · rfl
           )
        | trace_state
    · have hj32 : j = 32 := by omega
      subst hj32
      have hsm := wsv_scal (cvM ls 32)
      have hlt := cvM_lt ls
      have hlen := cvM_len ls 32
      have hblk := fun at' ha => cv_block ls at' s ha hs1.1
      have hbf := fun at' => buildA_fn (cvM ls 32) 32 (4 * at') s hlen (by omega)
      have hfc := fun at' => blL_facts (cvM ls 32) 32 (4 * at') s hlt
      have hdk := cvM_dok ls
      generalize cvM ls 32 = M at *
      have hwg : ∀ j, j < 32 → (wsv M)[j]? = some (.int .u32 (M.getD j 0 : Nat)) := fun j hj => wsv_get M j (by omega)
      have hwl := getD_lt4 hlt
      clear cat hmj hj crn
      generalize hMM : wsv M = MM at *
      (repeat' ((conv => whnf); first | (with_reducible apply sd_draw; · kernel_rfl) | (apply Sd.mk; · first | exact rfl | trivial | omega | (repeat' apply And.intro) <;> first | exact rfl | exact Nat.le_of_ble_eq_true rfl | omega | decide) | ((with_reducible apply Vl.mk (α := Int)); · (first | (with_reducible exact bits_keep _ _ _ _) | ((rewrite [tdiv_pos]); (focus (first | exact wi64 (by omega) (by omega) | exact wu32 (by omega) (by omega) | exact wi32 (by omega) (by omega))); omega) | exact tmod_pos (by omega) | exact wi64 (by omega) (by omega) | exact wu32 (by omega) (by omega) | exact wu32' _ | exact wu8 (by omega) (by omega) | exact wu64 (by omega) (by omega) | exact wi32 (by omega) (by omega) | rfl)) | ((with_reducible first | apply Vl.mk (α := Bool) | apply Vl.mk (α := Nat) | apply Vl.mk (α := ByteArray) | apply Ge.mk (α := Row) | apply Ge.mk (α := SV) | apply Ge.mk (α := AV)); · exact rfl) | (refine And.intro rfl ?_) | ((with_reducible first | apply Vl.mk (α := List SV) | apply Vl.mk (α := Ef) | apply Vl.mk (α := TV) | apply Ge.mk (α := List SV) | apply Sg.mk | apply Sk.mk); · (first | exact setAll_eq rfl | exact sg_all _ rfl | exact sk_all _ rfl rfl | ((first | apply sg_fc | apply sk_fc | (apply fc_eq; (conv => arg 1; whnf); apply fc_some) | apply fc_eq); (repeat' (first | exact fc_ren (wsv_scal _) | exact fc_ren (by assumption) | ((conv => arg 1; whnf); first | exact fc_nil | apply fc_cons | exact fc_int | exact fc_bool | exact fc_n | exact fc_ns | exact fc_ptr | exact fc_sl | exact fc_str | exact fc_unk | exact fc_fn | apply fc_s | apply fc_agg | apply fc_ta | apply fc_tup | exact fc_an | apply fc_ac | exact fc_tu | exact fc_nat | exact fc_bo | exact fc_none | apply fc_some | apply fc_pair | apply fc_row | apply fc_ef))); (all_goals exact rfl)) | ((dsimp only [Res.ef, renT, renA, renS, renN, nwN, upN, renRow, List.map_cons, List.map_nil, List.length_cons, List.length_nil]); first | done | exact rfl) | (dsimp only [setAll, List.set_cons_zero, List.set_cons_succ, List.cons_append, List.nil_append]; exact rfl) | exact rfl)) | ((first | apply Br.mk | apply Gd.mk) <;> (intro hb; first | (exact absurd hb (by decide)) | exact Bool.noConfusion (hb.symm.trans (by assumption) : true = false) | exact Bool.noConfusion (hb.symm.trans (by assumption) : false = true) | (simp only [decide_eq_true_eq, decide_eq_false_iff_not, beq_iff_eq, bne_iff_ne, beq_eq_false_iff_ne, bne_eq_false_iff_eq, Bool.not_eq_true', Bool.not_eq_false', Int.not_lt, Int.not_le, ge_iff_le, gt_iff_lt, ne_eq, Classical.not_not] at hb; first | (exfalso; omega) | skip) | skip)))); (all_goals (try (conv => whnf)))
      refine Lp.inv (fun mm σ => ∃ at' : Nat, mm + at' = 32 ∧ σ = cs2 s LL MM at') ?_ ?_
      · refine ⟨32, cs2 s LL MM 0, ?_, 0, by omega, rfl⟩
        apply wk_of (m := [(0, some 0), (1, some 1)])
        · repeat' (first | exact tml_nil | apply tml_cons)
          all_goals first | exact tvm_a (avm_s (svm_same rfl)) | exact tvm_a (avm_s (svm_ptr rfl)) | exact tvm_a (avm_s (svm_sl rfl))
        · show HlS _ _ [] _
          refine hls_row (rowmt_mk rfl rfl rfl rfl (svsm_scal hsc)) ?_
          refine hls_row (rowmt_mk rfl rfl rfl rfl (svsm_scal hsm)) ?_
          exact hls_nil
        · rfl
      · rintro mm σ ⟨at', hma, rfl⟩
        unfold cs2
        by_cases ha : at' < 32
        · obtain ⟨l, K, hK, hl, hA, h1, h2, h3, h4, h5, h6⟩ := hblk at' ha
          have hfa := hfc at'
          have cb := hbf at' (by omega) hlt K (by rw [hl]; exact hK)
          rw [hl] at hfa
          rw [hl, hA] at cb
          rw [hA] at hfa
          have cm := mayI_fn (4 * at') (by omega) K l K hK (by omega) (by rw [← hK]; exact hfa.2.2 (by omega))
          have hsl := mcs_scal l
          have hll := mcs_len l
          have hC : ∀ i, i < K → (bM (M.getD (at' + i) 0)).C = mv (dOp (M.getD (at' + i) 0)) (dA (M.getD (at' + i) 0)) (dB (M.getD (at' + i) 0)) (dC (M.getD (at' + i) 0)) (trK (dOp (M.getD (at' + i) 0)) (dM (M.getD (at' + i) 0))) 1 := fun i hi => bM_C _ (hwl _)
          have hat : ∀ i, i < K → ∀ j, j < 6 → (mcs l)[i * 6 + j]? = (mv (dOp (M.getD (at' + i) 0)) (dA (M.getD (at' + i) 0)) (dB (M.getD (at' + i) 0)) (dC (M.getD (at' + i) 0)) (trK (dOp (M.getD (at' + i) 0)) (dM (M.getD (at' + i) 0))) 1)[j]? := fun i hi j hj => by
            rw [← hC i hi]; exact mcs_at l i _ (h5 i hi).1 j hj
          have seg := mcs_seg l (K - 1) _ (h5 (K - 1) (by omega)).1
          rw [hC (K - 1) (by omega)] at seg
          have cel := ends_fn (dOp (M.getD (at' + (K - 1)) 0))
          have h5' : ∀ i, i < K → endsB (dOp (M.getD (at' + i) 0)) = true → i + 1 = K := fun i hi => (h5 i hi).2
          clear hC h5 hfa hl hA hbf hfc hblk
          generalize mcs l = LM at *
          have e1 : IntKind.i64.wrap (4 * (at' : Int)) = ((4 * at' : Nat) : Int) := by rw [wi64 (by omega) (by omega)]; omega
          have e2 : IntKind.u32.wrap ((4 * at' : Nat) : Int) = ((4 * at' : Nat) : Int) := wu32 (by omega) (by omega)
          have e3 : IntKind.i64.wrap ((K : Int) - 1) = ((K - 1 : Nat) : Int) := by rw [wi64 (by omega) (by omega)]; omega
          have e4 : IntKind.i64.wrap ((at' : Int) + (K : Int)) = ((at' + K : Nat) : Int) := by rw [wi64 (by omega) (by omega)]; omega
          have x1 : 0 + ((K - 1 : Nat) : Int).toNat * ty39.size = (K - 1) * 6 := by show 0 + ((K - 1 : Nat) : Int).toNat * 6 = _; omega
          have x2 : 0 + 0 + ((K - 1 : Nat) : Int).toNat * ty39.size = (K - 1) * 6 := by show 0 + 0 + ((K - 1 : Nat) : Int).toNat * 6 = _; omega
          unfold mv at seg
          obtain ⟨wL, hwL⟩ : ∃ w, M.getD (at' + (K - 1)) 0 = w := ⟨_, rfl⟩
          rw [hwL] at seg cel h6
          generalize hoL : dOp wL = oL at *
          generalize trK oL (dM wL) = kL at *
          generalize dA wL = aL at *
          generalize dB wL = bL at *
          generalize dC wL = cL at *
          cases hEL : endsB oL
          all_goals
            rw [hEL] at cel
            rw [hEL] at h6
            simp only [Bool.false_eq_true, false_or, true_or] at h6
            (repeat' ((conv => whnf); first | ((with_reducible apply Vl.mk (α := Int)); · with_reducible first | exact e1 | exact e2 | exact e3 | exact e4)  |  ((with_reducible apply Vl.mk (α := Nat)); · first | with_reducible exact x1 | exact x2)  |  (apply Sg.mk; · exact seg)  |  (apply Sd.mk; · (show (0 : Int) ≤ ((K - 1 : Nat) : Int) ∧ ((K - 1 : Nat) : Int) < K; omega))  |  ((first | apply Br.mk | apply Gd.mk) <;> (intro hb; first | (exact absurd hb (by decide)) | exact Bool.noConfusion (hb.symm.trans (by assumption) : true = false) | exact Bool.noConfusion (hb.symm.trans (by assumption) : false = true) | (exfalso; revert hb; simp only [beq_self_eq_true, Bool.and_true, Bool.and_self, reduceCtorEq, false_implies, bne_self_eq_false, imp_false, not_true_eq_false, not_false_eq_true, Bool.true_eq_false, Bool.false_eq_true]; done) | (simp only [decide_eq_true_eq, decide_eq_false_iff_not, beq_iff_eq, bne_iff_ne, beq_eq_false_iff_ne, bne_eq_false_iff_eq, Bool.not_eq_true', Bool.not_eq_false', Int.not_lt, Int.not_le, ge_iff_le, gt_iff_lt, ne_eq, Classical.not_not] at hb; first | (exfalso; omega) | skip) | skip))  |  (refine Eqs.mk _ (eqt_ok _ _ rfl _ _ _ rfl) ?_)  |  (refine vcall_det (f := 12) cb [⟨_, 0⟩] [(_, ⟨true, 1, MM⟩)] rfl ⟨rfl, trivial⟩ ⟨rfl, rowM_ro hsm, trivial⟩ ⟨rfl, noUp⟩ ?_)  |  (refine vcall_det (f := 13) cm [⟨_, 0⟩] [(_, ⟨true, 6, LM⟩)] rfl ⟨rfl, trivial⟩ ⟨rfl, rowM_ro hsl, trivial⟩ ⟨rfl, noUp⟩ ?_)  |  (refine vcall_pure (f := 14) (cel) rfl ?_) | (with_reducible apply sd_draw; · kernel_rfl) | (apply Sd.mk; · first | exact rfl | trivial | omega | (repeat' apply And.intro) <;> first | exact rfl | exact Nat.le_of_ble_eq_true rfl | omega | decide) | ((with_reducible apply Vl.mk (α := Int)); · (first | (with_reducible exact bits_keep _ _ _ _) | ((rewrite [tdiv_pos]); (focus (first | exact wi64 (by omega) (by omega) | exact wu32 (by omega) (by omega) | exact wi32 (by omega) (by omega))); omega) | exact tmod_pos (by omega) | exact wi64 (by omega) (by omega) | exact wu32 (by omega) (by omega) | exact wu32' _ | exact wu8 (by omega) (by omega) | exact wu64 (by omega) (by omega) | exact wi32 (by omega) (by omega) | rfl)) | ((with_reducible first | apply Vl.mk (α := Bool) | apply Vl.mk (α := Nat) | apply Vl.mk (α := ByteArray) | apply Ge.mk (α := Row) | apply Ge.mk (α := SV) | apply Ge.mk (α := AV)); · exact rfl) | (refine And.intro rfl ?_) | ((with_reducible first | apply Vl.mk (α := List SV) | apply Vl.mk (α := Ef) | apply Vl.mk (α := TV) | apply Ge.mk (α := List SV) | apply Sg.mk | apply Sk.mk); · (first | exact setAll_eq rfl | exact sg_all _ rfl | exact sk_all _ rfl rfl | ((first | apply sg_fc | apply sk_fc | (apply fc_eq; (conv => arg 1; whnf); apply fc_some) | apply fc_eq); (repeat' (first | exact fc_ren (wsv_scal _) | exact fc_ren (by assumption) | ((conv => arg 1; whnf); first | exact fc_nil | apply fc_cons | exact fc_int | exact fc_bool | exact fc_n | exact fc_ns | exact fc_ptr | exact fc_sl | exact fc_str | exact fc_unk | exact fc_fn | apply fc_s | apply fc_agg | apply fc_ta | apply fc_tup | exact fc_an | apply fc_ac | exact fc_tu | exact fc_nat | exact fc_bo | exact fc_none | apply fc_some | apply fc_pair | apply fc_row | apply fc_ef))); (all_goals exact rfl)) | ((dsimp only [Res.ef, renT, renA, renS, renN, nwN, upN, renRow, List.map_cons, List.map_nil, List.length_cons, List.length_nil]); first | done | exact rfl) | (dsimp only [setAll, List.set_cons_zero, List.set_cons_succ, List.cons_append, List.nil_append]; exact rfl) | exact rfl)) | ((first | apply Br.mk | apply Gd.mk) <;> (intro hb; first | (exact absurd hb (by decide)) | exact Bool.noConfusion (hb.symm.trans (by assumption) : true = false) | exact Bool.noConfusion (hb.symm.trans (by assumption) : false = true) | (simp only [decide_eq_true_eq, decide_eq_false_iff_not, beq_iff_eq, bne_iff_ne, beq_eq_false_iff_ne, bne_eq_false_iff_eq, Bool.not_eq_true', Bool.not_eq_false', Int.not_lt, Int.not_le, ge_iff_le, gt_iff_lt, ne_eq, Classical.not_not] at hb; first | (exfalso; omega) | skip) | skip)))); (all_goals (try (conv => whnf)))
            all_goals
              refine Lp.inv (fun mm3 σ => ∃ i : Nat, mm3 + i = K ∧ σ = cs3 s LL MM at' K LM oL aL bL cL kL i) ?_ ?_
              · refine ⟨K, cs3 s LL MM at' K LM oL aL bL cL kL 0, ?_, 0, by omega, rfl⟩
                apply wk_of (m := [(0, some 0), (1, some 1), (2, some 131456), (3, some 262592), (4, some 131392)])
                · repeat' (first | exact tml_nil | apply tml_cons)
                  all_goals first | exact tvm_a (avm_s (svm_same rfl)) | exact tvm_a (avm_s (svm_ptr rfl)) | exact tvm_a (avm_s (svm_sl rfl))
                · show HlS _ _ [] _
                  refine hls_row (rowmt_mk rfl rfl rfl rfl (svsm_scal hsc)) ?_
                  refine hls_row (rowmt_mk rfl rfl rfl rfl (svsm_scal hsm)) ?_
                  refine hls_row (rowmt_mk rfl rfl rfl rfl (.cons (svm_same rfl) (.cons (svm_same rfl) (.cons (svm_sl rfl) .nil)))) ?_
                  refine hls_row (rowmt_mk rfl rfl rfl rfl (svsm_scal rfl)) ?_
                  refine hls_row (rowmt_mk rfl rfl rfl rfl (svsm_scal hsl)) ?_
                  exact hls_nil
                · rfl
              · rintro mm3 σ ⟨i, hmi, rfl⟩
                unfold cs3
                by_cases hi : i < K
                · have hw := hwl (at' + i)
                  have hdw := hdk (at' + i) (by omega)
                  have hgw := hwg (at' + i) (by omega)
                  have cde := decode_ok2 (M.getD (at' + i) 0) hw hdw
                  have g0 := hat i hi 0 (by omega)
                  have g1 := hat i hi 1 (by omega)
                  have g2 := hat i hi 2 (by omega)
                  have g3 := hat i hi 3 (by omega)
                  have cew := ends_fn (dOp (M.getD (at' + i) 0))
                  have hEw : i + 1 ≠ K → endsB (dOp (M.getD (at' + i) 0)) = false := fun h => by
                    cases hq : endsB (dOp (M.getD (at' + i) 0)) with
                    | false => rfl
                    | true => exact absurd (h5' i hi hq) h
                  have hEl : i + 1 = K → dOp (M.getD (at' + i) 0) = oL := fun h => by rw [show at' + i = at' + (K - 1) by omega, hwL, hoL]
                  have f1 : IntKind.i64.wrap ((at' : Int) + (i : Int)) = ((at' + i : Nat) : Int) := by rw [wi64 (by omega) (by omega)]; omega
                  have f2 : IntKind.i64.wrap ((i : Int) + 1) = ((i + 1 : Nat) : Int) := by rw [wi64 (by omega) (by omega)]; omega
                  have y1 : 0 + ((i : Nat) : Int).toNat * ty39.size = i * 6 := by show 0 + ((i : Nat) : Int).toNat * 6 = _; omega
                  have y2 : 0 + 0 + ((i : Nat) : Int).toNat * ty39.size = i * 6 := by show 0 + 0 + ((i : Nat) : Int).toNat * 6 = _; omega
                  have hgw2 : MM[0 + ((at' + i : Nat) : Int).toNat * ty26.size]? = some (.int .u32 (M.getD (at' + i) 0 : Nat)) := by
                    rw [show 0 + ((at' + i : Nat) : Int).toNat * ty26.size = at' + i by show 0 + ((at' + i : Nat) : Int).toNat * 1 = _; omega]; exact hgw
                  generalize M.getD (at' + i) 0 = w at *
                  change LM[i * 6 + 0]? = some (.int .i64 (dOp w)) at g0
                  change LM[i * 6 + 1]? = some (.int .i64 (dA w)) at g1
                  change LM[i * 6 + 2]? = some (.int .i64 (dB w)) at g2
                  change LM[i * 6 + 3]? = some (.int .i64 (dC w)) at g3
                  unfold iv at cde
                  clear hat hwg hwl hdk h5'
                  generalize dOp w = ow at *
                  generalize dA w = aw at *
                  generalize dB w = bw at *
                  generalize dC w = cw' at *
                  generalize dM w = mw at *
                  by_cases hik : i + 1 = K
                  · have ho := hEl hik
                    subst ho
                    rw [hEL] at cew
                    (repeat' ((conv => whnf); first | ((with_reducible apply Vl.mk (α := Int)); · with_reducible first | exact f1 | exact f2 | exact e3)  |  ((with_reducible apply Vl.mk (α := Nat)); · first | with_reducible exact y1 | exact y2)  |  ((with_reducible apply Ge.mk (α := SV)); · first | exact hgw2 | exact g0 | exact g1 | exact g2 | exact g3)  |  (apply Sd.mk; · first | (show (0 : Int) ≤ ((at' + i : Nat) : Int) ∧ ((at' + i : Nat) : Int) < 32; omega) | (show (0 : Int) ≤ i ∧ (i : Int) < K; omega))  |  ((first | apply Br.mk | apply Gd.mk) <;> (intro hb; first | (exact absurd hb (by decide)) | exact Bool.noConfusion (hb.symm.trans (by assumption) : true = false) | exact Bool.noConfusion (hb.symm.trans (by assumption) : false = true) | (exfalso; revert hb; simp only [beq_self_eq_true, Bool.and_true, Bool.and_self, reduceCtorEq, false_implies, bne_self_eq_false, imp_false, not_true_eq_false, not_false_eq_true, Bool.true_eq_false, Bool.false_eq_true]; done) | (simp only [decide_eq_true_eq, decide_eq_false_iff_not, beq_iff_eq, bne_iff_ne, beq_eq_false_iff_ne, bne_eq_false_iff_eq, Bool.not_eq_true', Bool.not_eq_false', Int.not_lt, Int.not_le, ge_iff_le, gt_iff_lt, ne_eq, Classical.not_not] at hb; first | (exfalso; omega) | skip) | skip))  |  (refine Eqs.mk _ (eqt_ok _ _ rfl _ _ _ rfl) ?_)  |  (refine vcall_pure (f := 15) (cde) rfl ?_)  |  (refine vcall_pure (f := 14) (cew) rfl ?_) | (with_reducible apply sd_draw; · kernel_rfl) | (apply Sd.mk; · first | exact rfl | trivial | omega | (repeat' apply And.intro) <;> first | exact rfl | exact Nat.le_of_ble_eq_true rfl | omega | decide) | ((with_reducible apply Vl.mk (α := Int)); · (first | (with_reducible exact bits_keep _ _ _ _) | ((rewrite [tdiv_pos]); (focus (first | exact wi64 (by omega) (by omega) | exact wu32 (by omega) (by omega) | exact wi32 (by omega) (by omega))); omega) | exact tmod_pos (by omega) | exact wi64 (by omega) (by omega) | exact wu32 (by omega) (by omega) | exact wu32' _ | exact wu8 (by omega) (by omega) | exact wu64 (by omega) (by omega) | exact wi32 (by omega) (by omega) | rfl)) | ((with_reducible first | apply Vl.mk (α := Bool) | apply Vl.mk (α := Nat) | apply Vl.mk (α := ByteArray) | apply Ge.mk (α := Row) | apply Ge.mk (α := SV) | apply Ge.mk (α := AV)); · exact rfl) | (refine And.intro rfl ?_) | ((with_reducible first | apply Vl.mk (α := List SV) | apply Vl.mk (α := Ef) | apply Vl.mk (α := TV) | apply Ge.mk (α := List SV) | apply Sg.mk | apply Sk.mk); · (first | exact setAll_eq rfl | exact sg_all _ rfl | exact sk_all _ rfl rfl | ((first | apply sg_fc | apply sk_fc | (apply fc_eq; (conv => arg 1; whnf); apply fc_some) | apply fc_eq); (repeat' (first | exact fc_ren (wsv_scal _) | exact fc_ren (by assumption) | ((conv => arg 1; whnf); first | exact fc_nil | apply fc_cons | exact fc_int | exact fc_bool | exact fc_n | exact fc_ns | exact fc_ptr | exact fc_sl | exact fc_str | exact fc_unk | exact fc_fn | apply fc_s | apply fc_agg | apply fc_ta | apply fc_tup | exact fc_an | apply fc_ac | exact fc_tu | exact fc_nat | exact fc_bo | exact fc_none | apply fc_some | apply fc_pair | apply fc_row | apply fc_ef))); (all_goals exact rfl)) | ((dsimp only [Res.ef, renT, renA, renS, renN, nwN, upN, renRow, List.map_cons, List.map_nil, List.length_cons, List.length_nil]); first | done | exact rfl) | (dsimp only [setAll, List.set_cons_zero, List.set_cons_succ, List.cons_append, List.nil_append]; exact rfl) | exact rfl)) | ((first | apply Br.mk | apply Gd.mk) <;> (intro hb; first | (exact absurd hb (by decide)) | exact Bool.noConfusion (hb.symm.trans (by assumption) : true = false) | exact Bool.noConfusion (hb.symm.trans (by assumption) : false = true) | (simp only [decide_eq_true_eq, decide_eq_false_iff_not, beq_iff_eq, bne_iff_ne, beq_eq_false_iff_ne, bne_eq_false_iff_eq, Bool.not_eq_true', Bool.not_eq_false', Int.not_lt, Int.not_le, ge_iff_le, gt_iff_lt, ne_eq, Classical.not_not] at hb; first | (exfalso; omega) | skip) | skip)))); (all_goals (try (conv => whnf)))
                    all_goals first
                      | (refine ⟨mm3 - 1, cs3 s LL MM at' K LM ow aL bL cL kL (i + 1), by omega, ?_, i + 1, by omega, rfl⟩
                         apply wk_of (m := [(0, some 0), (1, some 1), (2, some 2), (3, some 3), (4, some 4)])
                         · repeat' (first | exact tml_nil | apply tml_cons)
                           all_goals first | exact tvm_a (avm_s (svm_same rfl)) | exact tvm_a (avm_s (svm_ptr rfl)) | exact tvm_a (avm_s (svm_sl rfl))
                         · show HlS _ _ [] _
                           refine hls_row (rowmt_mk rfl rfl rfl rfl (svsm_scal hsc)) ?_
                           refine hls_row (rowmt_mk rfl rfl rfl rfl (svsm_scal hsm)) ?_
                           refine hls_row (rowmt_mk rfl rfl rfl rfl (.cons (svm_same rfl) (.cons (svm_same rfl) (.cons (svm_sl rfl) .nil)))) ?_
                           refine hls_row (rowmt_mk rfl rfl rfl rfl (svsm_scal rfl)) ?_
                           refine hls_row (rowmt_mk rfl rfl rfl rfl (svsm_scal hsl)) ?_
                           exact hls_nil
                         · rfl
                         )
                      | trace_state
                  · rw [hEw hik] at cew
                    (repeat' ((conv => whnf); first | ((with_reducible apply Vl.mk (α := Int)); · with_reducible first | exact f1 | exact f2 | exact e3)  |  ((with_reducible apply Vl.mk (α := Nat)); · first | with_reducible exact y1 | exact y2)  |  ((with_reducible apply Ge.mk (α := SV)); · first | exact hgw2 | exact g0 | exact g1 | exact g2 | exact g3)  |  (apply Sd.mk; · first | (show (0 : Int) ≤ ((at' + i : Nat) : Int) ∧ ((at' + i : Nat) : Int) < 32; omega) | (show (0 : Int) ≤ i ∧ (i : Int) < K; omega))  |  ((first | apply Br.mk | apply Gd.mk) <;> (intro hb; first | (exact absurd hb (by decide)) | exact Bool.noConfusion (hb.symm.trans (by assumption) : true = false) | exact Bool.noConfusion (hb.symm.trans (by assumption) : false = true) | (exfalso; revert hb; simp only [beq_self_eq_true, Bool.and_true, Bool.and_self, reduceCtorEq, false_implies, bne_self_eq_false, imp_false, not_true_eq_false, not_false_eq_true, Bool.true_eq_false, Bool.false_eq_true]; done) | (simp only [decide_eq_true_eq, decide_eq_false_iff_not, beq_iff_eq, bne_iff_ne, beq_eq_false_iff_ne, bne_eq_false_iff_eq, Bool.not_eq_true', Bool.not_eq_false', Int.not_lt, Int.not_le, ge_iff_le, gt_iff_lt, ne_eq, Classical.not_not] at hb; first | (exfalso; omega) | skip) | skip))  |  (refine Eqs.mk _ (eqt_ok _ _ rfl _ _ _ rfl) ?_)  |  (refine vcall_pure (f := 15) (cde) rfl ?_)  |  (refine vcall_pure (f := 14) (cew) rfl ?_)  |  (refine vcall_pure (f := 14) (cel) rfl ?_) | (with_reducible apply sd_draw; · kernel_rfl) | (apply Sd.mk; · first | exact rfl | trivial | omega | (repeat' apply And.intro) <;> first | exact rfl | exact Nat.le_of_ble_eq_true rfl | omega | decide) | ((with_reducible apply Vl.mk (α := Int)); · (first | (with_reducible exact bits_keep _ _ _ _) | ((rewrite [tdiv_pos]); (focus (first | exact wi64 (by omega) (by omega) | exact wu32 (by omega) (by omega) | exact wi32 (by omega) (by omega))); omega) | exact tmod_pos (by omega) | exact wi64 (by omega) (by omega) | exact wu32 (by omega) (by omega) | exact wu32' _ | exact wu8 (by omega) (by omega) | exact wu64 (by omega) (by omega) | exact wi32 (by omega) (by omega) | rfl)) | ((with_reducible first | apply Vl.mk (α := Bool) | apply Vl.mk (α := Nat) | apply Vl.mk (α := ByteArray) | apply Ge.mk (α := Row) | apply Ge.mk (α := SV) | apply Ge.mk (α := AV)); · exact rfl) | (refine And.intro rfl ?_) | ((with_reducible first | apply Vl.mk (α := List SV) | apply Vl.mk (α := Ef) | apply Vl.mk (α := TV) | apply Ge.mk (α := List SV) | apply Sg.mk | apply Sk.mk); · (first | exact setAll_eq rfl | exact sg_all _ rfl | exact sk_all _ rfl rfl | ((first | apply sg_fc | apply sk_fc | (apply fc_eq; (conv => arg 1; whnf); apply fc_some) | apply fc_eq); (repeat' (first | exact fc_ren (wsv_scal _) | exact fc_ren (by assumption) | ((conv => arg 1; whnf); first | exact fc_nil | apply fc_cons | exact fc_int | exact fc_bool | exact fc_n | exact fc_ns | exact fc_ptr | exact fc_sl | exact fc_str | exact fc_unk | exact fc_fn | apply fc_s | apply fc_agg | apply fc_ta | apply fc_tup | exact fc_an | apply fc_ac | exact fc_tu | exact fc_nat | exact fc_bo | exact fc_none | apply fc_some | apply fc_pair | apply fc_row | apply fc_ef))); (all_goals exact rfl)) | ((dsimp only [Res.ef, renT, renA, renS, renN, nwN, upN, renRow, List.map_cons, List.map_nil, List.length_cons, List.length_nil]); first | done | exact rfl) | (dsimp only [setAll, List.set_cons_zero, List.set_cons_succ, List.cons_append, List.nil_append]; exact rfl) | exact rfl)) | ((first | apply Br.mk | apply Gd.mk) <;> (intro hb; first | (exact absurd hb (by decide)) | exact Bool.noConfusion (hb.symm.trans (by assumption) : true = false) | exact Bool.noConfusion (hb.symm.trans (by assumption) : false = true) | (simp only [decide_eq_true_eq, decide_eq_false_iff_not, beq_iff_eq, bne_iff_ne, beq_eq_false_iff_ne, bne_eq_false_iff_eq, Bool.not_eq_true', Bool.not_eq_false', Int.not_lt, Int.not_le, ge_iff_le, gt_iff_lt, ne_eq, Classical.not_not] at hb; first | (exfalso; omega) | skip) | skip)))); (all_goals (try (conv => whnf)))
                    all_goals first
                      | (refine ⟨mm3 - 1, cs3 s LL MM at' K LM oL aL bL cL kL (i + 1), by omega, ?_, i + 1, by omega, rfl⟩
                         apply wk_of (m := [(0, some 0), (1, some 1), (2, some 2), (3, some 3), (4, some 4)])
                         · repeat' (first | exact tml_nil | apply tml_cons)
                           all_goals first | exact tvm_a (avm_s (svm_same rfl)) | exact tvm_a (avm_s (svm_ptr rfl)) | exact tvm_a (avm_s (svm_sl rfl))
                         · show HlS _ _ [] _
                           refine hls_row (rowmt_mk rfl rfl rfl rfl (svsm_scal hsc)) ?_
                           refine hls_row (rowmt_mk rfl rfl rfl rfl (svsm_scal hsm)) ?_
                           refine hls_row (rowmt_mk rfl rfl rfl rfl (.cons (svm_same rfl) (.cons (svm_same rfl) (.cons (svm_sl rfl) .nil)))) ?_
                           refine hls_row (rowmt_mk rfl rfl rfl rfl (svsm_scal rfl)) ?_
                           refine hls_row (rowmt_mk rfl rfl rfl rfl (svsm_scal hsl)) ?_
                           exact hls_nil
                         · rfl
                         )
                      | trace_state
                · have hiK : i = K := by omega
                  subst hiK
                  (repeat' ((conv => whnf); first | ((with_reducible apply Vl.mk (α := Int)); · with_reducible exact e4) | (with_reducible apply sd_draw; · kernel_rfl) | (apply Sd.mk; · first | exact rfl | trivial | omega | (repeat' apply And.intro) <;> first | exact rfl | exact Nat.le_of_ble_eq_true rfl | omega | decide) | ((with_reducible apply Vl.mk (α := Int)); · (first | (with_reducible exact bits_keep _ _ _ _) | ((rewrite [tdiv_pos]); (focus (first | exact wi64 (by omega) (by omega) | exact wu32 (by omega) (by omega) | exact wi32 (by omega) (by omega))); omega) | exact tmod_pos (by omega) | exact wi64 (by omega) (by omega) | exact wu32 (by omega) (by omega) | exact wu32' _ | exact wu8 (by omega) (by omega) | exact wu64 (by omega) (by omega) | exact wi32 (by omega) (by omega) | rfl)) | ((with_reducible first | apply Vl.mk (α := Bool) | apply Vl.mk (α := Nat) | apply Vl.mk (α := ByteArray) | apply Ge.mk (α := Row) | apply Ge.mk (α := SV) | apply Ge.mk (α := AV)); · exact rfl) | (refine And.intro rfl ?_) | ((with_reducible first | apply Vl.mk (α := List SV) | apply Vl.mk (α := Ef) | apply Vl.mk (α := TV) | apply Ge.mk (α := List SV) | apply Sg.mk | apply Sk.mk); · (first | exact setAll_eq rfl | exact sg_all _ rfl | exact sk_all _ rfl rfl | ((first | apply sg_fc | apply sk_fc | (apply fc_eq; (conv => arg 1; whnf); apply fc_some) | apply fc_eq); (repeat' (first | exact fc_ren (wsv_scal _) | exact fc_ren (by assumption) | ((conv => arg 1; whnf); first | exact fc_nil | apply fc_cons | exact fc_int | exact fc_bool | exact fc_n | exact fc_ns | exact fc_ptr | exact fc_sl | exact fc_str | exact fc_unk | exact fc_fn | apply fc_s | apply fc_agg | apply fc_ta | apply fc_tup | exact fc_an | apply fc_ac | exact fc_tu | exact fc_nat | exact fc_bo | exact fc_none | apply fc_some | apply fc_pair | apply fc_row | apply fc_ef))); (all_goals exact rfl)) | ((dsimp only [Res.ef, renT, renA, renS, renN, nwN, upN, renRow, List.map_cons, List.map_nil, List.length_cons, List.length_nil]); first | done | exact rfl) | (dsimp only [setAll, List.set_cons_zero, List.set_cons_succ, List.cons_append, List.nil_append]; exact rfl) | exact rfl)) | ((first | apply Br.mk | apply Gd.mk) <;> (intro hb; first | (exact absurd hb (by decide)) | exact Bool.noConfusion (hb.symm.trans (by assumption) : true = false) | exact Bool.noConfusion (hb.symm.trans (by assumption) : false = true) | (simp only [decide_eq_true_eq, decide_eq_false_iff_not, beq_iff_eq, bne_iff_ne, beq_eq_false_iff_ne, bne_eq_false_iff_eq, Bool.not_eq_true', Bool.not_eq_false', Int.not_lt, Int.not_le, ge_iff_le, gt_iff_lt, ne_eq, Classical.not_not] at hb; first | (exfalso; omega) | skip) | skip)))); (all_goals (try (conv => whnf)))
                  all_goals first
                    | (refine ⟨mm - i, cs2 s LL MM (at' + i), by omega, ?_, at' + i, by omega, rfl⟩
                       apply wk_of (m := [(0, some 0), (1, some 1)])
                       · repeat' (first | exact tml_nil | apply tml_cons)
                         all_goals first | exact tvm_a (avm_s (svm_same rfl)) | exact tvm_a (avm_s (svm_ptr rfl)) | exact tvm_a (avm_s (svm_sl rfl))
                       · show HlS _ _ [] _
                         refine hls_row (rowmt_mk rfl rfl rfl rfl (svsm_scal hsc)) ?_
                         refine hls_row (rowmt_mk rfl rfl rfl rfl (svsm_scal hsm)) ?_
                         exact hls_nil
                       · rfl
                       )
                    | trace_state
        · have ha32 : at' = 32 := by omega
          subst ha32
          (repeat' ((conv => whnf); first | ((first | apply Br.mk | apply Gd.mk) <;> (intro hb; first | (exact absurd hb (by decide)) | exact Bool.noConfusion (hb.symm.trans (by assumption) : true = false) | exact Bool.noConfusion (hb.symm.trans (by assumption) : false = true) | (exfalso; revert hb; simp only [beq_self_eq_true, Bool.and_true, Bool.and_self, reduceCtorEq, false_implies, bne_self_eq_false, imp_false, not_true_eq_false, not_false_eq_true, Bool.true_eq_false, Bool.false_eq_true]; done) | (simp only [decide_eq_true_eq, decide_eq_false_iff_not, beq_iff_eq, bne_iff_ne, beq_eq_false_iff_ne, bne_eq_false_iff_eq, Bool.not_eq_true', Bool.not_eq_false', Int.not_lt, Int.not_le, ge_iff_le, gt_iff_lt, ne_eq, Classical.not_not] at hb; first | (exfalso; omega) | skip) | skip))  |  (refine Eqs.mk _ (eqt_ok _ _ rfl _ _ _ rfl) ?_)  |  (refine vcall_pure (f := 16) (awake15_fn) rfl ?_) | (with_reducible apply sd_draw; · kernel_rfl) | (apply Sd.mk; · first | exact rfl | trivial | omega | (repeat' apply And.intro) <;> first | exact rfl | exact Nat.le_of_ble_eq_true rfl | omega | decide) | ((with_reducible apply Vl.mk (α := Int)); · (first | (with_reducible exact bits_keep _ _ _ _) | ((rewrite [tdiv_pos]); (focus (first | exact wi64 (by omega) (by omega) | exact wu32 (by omega) (by omega) | exact wi32 (by omega) (by omega))); omega) | exact tmod_pos (by omega) | exact wi64 (by omega) (by omega) | exact wu32 (by omega) (by omega) | exact wu32' _ | exact wu8 (by omega) (by omega) | exact wu64 (by omega) (by omega) | exact wi32 (by omega) (by omega) | rfl)) | ((with_reducible first | apply Vl.mk (α := Bool) | apply Vl.mk (α := Nat) | apply Vl.mk (α := ByteArray) | apply Ge.mk (α := Row) | apply Ge.mk (α := SV) | apply Ge.mk (α := AV)); · exact rfl) | (refine And.intro rfl ?_) | ((with_reducible first | apply Vl.mk (α := List SV) | apply Vl.mk (α := Ef) | apply Vl.mk (α := TV) | apply Ge.mk (α := List SV) | apply Sg.mk | apply Sk.mk); · (first | exact setAll_eq rfl | exact sg_all _ rfl | exact sk_all _ rfl rfl | ((first | apply sg_fc | apply sk_fc | (apply fc_eq; (conv => arg 1; whnf); apply fc_some) | apply fc_eq); (repeat' (first | exact fc_ren (wsv_scal _) | exact fc_ren (by assumption) | ((conv => arg 1; whnf); first | exact fc_nil | apply fc_cons | exact fc_int | exact fc_bool | exact fc_n | exact fc_ns | exact fc_ptr | exact fc_sl | exact fc_str | exact fc_unk | exact fc_fn | apply fc_s | apply fc_agg | apply fc_ta | apply fc_tup | exact fc_an | apply fc_ac | exact fc_tu | exact fc_nat | exact fc_bo | exact fc_none | apply fc_some | apply fc_pair | apply fc_row | apply fc_ef))); (all_goals exact rfl)) | ((dsimp only [Res.ef, renT, renA, renS, renN, nwN, upN, renRow, List.map_cons, List.map_nil, List.length_cons, List.length_nil]); first | done | exact rfl) | (dsimp only [setAll, List.set_cons_zero, List.set_cons_succ, List.cons_append, List.nil_append]; exact rfl) | exact rfl)) | ((first | apply Br.mk | apply Gd.mk) <;> (intro hb; first | (exact absurd hb (by decide)) | exact Bool.noConfusion (hb.symm.trans (by assumption) : true = false) | exact Bool.noConfusion (hb.symm.trans (by assumption) : false = true) | (simp only [decide_eq_true_eq, decide_eq_false_iff_not, beq_iff_eq, bne_iff_ne, beq_eq_false_iff_ne, bne_eq_false_iff_eq, Bool.not_eq_true', Bool.not_eq_false', Int.not_lt, Int.not_le, ge_iff_le, gt_iff_lt, ne_eq, Classical.not_not] at hb; first | (exfalso; omega) | skip) | skip)))); (all_goals (try (conv => whnf)))
          all_goals first | (apply Fin.mk (m := [(0, some 0)]); (focus exact rfl); (all_goals ((try (show HlS _ _ [] _)); first | ((repeat' (first | exact SVsM.nil | exact avsm_nil | exact svm_same rfl | exact svm_ptr rfl | exact svm_sl rfl | exact svm_slnil rfl | exact svsm_scal rfl | exact svsm_scal (wsv_scal _) | exact svsm_scal (by assumption) | exact hls_nil | apply SVsM.cons | apply tvm_a | apply tvm_tup | apply avm_agg | apply avm_s | apply avsm_cons | exact trivial | (refine hls_skip rfl ?_) | apply hls_none | apply hls_row | (refine rowmt_mk rfl rfl rfl rfl ?_) | exact rowmt_nil rfl rfl)); done) | exact rfl))) | trace_state
end Go.Proofs.Ytppjiheebpabjaa
