/- placed. -/
import Derived.Test.YtckdamhnmcmbbaaPlcA
namespace Go.Proofs.Ytckdamhnmcmbbaa
open Go Go.RowKit
set_option linter.unusedSimpArgs false
set_option linter.unusedVariables false

set_option maxRecDepth 1000000 in
theorem new4_run : runF eqt tys true fns noCt 1000 20 40 [.s (.int .i64 4)] [] = some ⟨.a (.s (.sl 0 0 128)), [], [⟨true, 1, wsv (List.replicate 128 0)⟩]⟩ := by kernel_rfl
theorem memL_zero (ls : List Int) : memL ls 0 = List.replicate 128 0 := by
  unfold memL
  apply List.ext_getElem?
  intro i
  by_cases hi : i < 128
  · rw [List.getElem?_map, List.getElem?_range hi, List.getElem?_replicate, if_pos hi]; rfl
  · rw [List.getElem?_eq_none (by simp; omega), List.getElem?_eq_none (by simp; omega)]
theorem new4_fn (ls : List Int) : Fn Try.prog 40 [.s (.int .i64 4)] [] (· = ⟨.a (.s (.sl 0 0 128)), [], [⟨true, 1, wsv (memL ls 0)⟩]⟩) := by
  rw [memL_zero]; exact run_fn new4_run
/-- A row of words, changed in one place. -/
theorem wsv_set (xs : List Nat) (j w : Nat) (hj : j < xs.length) : setAll (wsv xs) j [.int .u32 w] = wsv (xs.set j w) := by
  apply List.ext_getElem?
  intro i
  rw [setAll_get _ _ _ _ (by simp; omega)]
  unfold wsv
  simp only [List.getElem?_map, List.length_cons, List.length_nil, Nat.zero_add, List.getElem?_set]
  by_cases hi : i = j
  · subst hi
    rw [if_pos (by omega), if_pos rfl, if_pos hj]
    simp
  · rw [if_neg (by omega), if_neg (by omega)]
def pst (ls : List Int) (n pc w j : Nat) (RG : List Nat) (M : List SV) : St :=
  ⟨[(0, .a (.s (.sl 0 0 n))), (1, .a (.s (.int .u32 pc))), (2, .a (.s (.int .u32 w))), (6, .a (.s (.ptr 1 0))), (8, .a (.s (.ptr 2 0))), (10, .a (.s (.sl 3 0 128))), (11, .a (.s (.int .i64 j)))],
   [(0, some ⟨false, 1, isv .i64 ls⟩), (1, some ⟨true, 1, cpuC [0, 0, 0, 0, 0, 0, 0, 0, 0, 0, 0, 0, 0, 0, 0, 0] 0 [0, 0, 0, 0, 0, 0, 0, 0]⟩), (2, some ⟨true, 1, cpuC RG pc [1, 0, 0, 0, 0, 0, 0, 0]⟩), (3, some ⟨true, 1, M⟩)], [0]⟩
set_option maxHeartbeats 600000 in
set_option maxRecDepth 100000 in
theorem placed_fn (ls : List Int) (n pc w : Nat) (hl : ls.length = n) (hn : n ≤ 9223372036854775807) (hpc : pc < 512) (hw : w < 4294967296) :
    Fn Try.prog 27 [.s (.sl 0 0 n), .s (.int .u32 pc), .s (.int .u32 w)] [⟨false, 1, isv .i64 ls⟩] (· = ⟨.tup [.agg (cpuC (regsV ls) pc [1, 0, 0, 0, 0, 0, 0, 0]), .s (.sl 1 0 128)], [], [⟨true, 1, wsv ((memL ls 128).set (pc / 4) w)⟩]⟩) := by
  have hat := fun i => at_fn ls n i hl hn
  have n2 : IntKind.i64.wrap (1 + 1) = 2 := wi64 (by omega) (by omega)
  have n3 : IntKind.i64.wrap (2 + 1) = 3 := wi64 (by omega) (by omega)
  have n4 : IntKind.i64.wrap (3 + 1) = 4 := wi64 (by omega) (by omega)
  have n5 : IntKind.i64.wrap (4 + 1) = 5 := wi64 (by omega) (by omega)
  have n6 : IntKind.i64.wrap (5 + 1) = 6 := wi64 (by omega) (by omega)
  have n7 : IntKind.i64.wrap (6 + 1) = 7 := wi64 (by omega) (by omega)
  have n8 : IntKind.i64.wrap (7 + 1) = 8 := wi64 (by omega) (by omega)
  have n9 : IntKind.i64.wrap (8 + 1) = 9 := wi64 (by omega) (by omega)
  have n10 : IntKind.i64.wrap (9 + 1) = 10 := wi64 (by omega) (by omega)
  have n11 : IntKind.i64.wrap (10 + 1) = 11 := wi64 (by omega) (by omega)
  have n12 : IntKind.i64.wrap (11 + 1) = 12 := wi64 (by omega) (by omega)
  have n13 : IntKind.i64.wrap (12 + 1) = 13 := wi64 (by omega) (by omega)
  have n14 : IntKind.i64.wrap (13 + 1) = 14 := wi64 (by omega) (by omega)
  have n15 : IntKind.i64.wrap (14 + 1) = 15 := wi64 (by omega) (by omega)
  have n16 : IntKind.i64.wrap (15 + 1) = 16 := wi64 (by omega) (by omega)
  have hn4 := new4_fn ls
  have hset := memL_set ls
  have hfin := wsv_set (memL ls 128) (pc / 4) w (by rw [memL_len]; omega)
  have hlen : ∀ j, (wsv (memL ls j)).length = 128 := fun j => by rw [wsv_length, memL_len]
  have hsc : ∀ j, allScal (wsv (memL ls j)) = true := fun j => wsv_scal _
  have hsc2 : allScal (wsv ((memL ls 128).set (pc / 4) w)) = true := wsv_scal _
  generalize wsv ((memL ls 128).set (pc / 4) w) = MF at *
  have hln : ∀ j : Nat, 0 + ((j : Nat) : Int).toNat * 1 = j := fun j => by omega
  have hlp : 0 + ((pc : Int) / 4).toNat * 1 = pc / 4 := by omega
  generalize hM : (fun j => wsv (memL ls j)) = M at *
  have hM' : ∀ j, wsv (memL ls j) = M j := fun j => by rw [← hM]
  simp only [hM'] at *
  have hsc0 := hsc 0
  have his : allScal (isv .i64 ls) = true := isv_scal _ _
  refine fn_of_vc mixed tys_ok _ _ Try.func27 (by kernel_rfl) rfl Try.ntmps27 (by rw [Try.results27]) rfl ?_; dsimp only [argTm, argHl, Nat.zero_add, Nat.reduceAdd, List.length_nil, List.length_cons]
  (repeat' ((conv => whnf); first | ((with_reducible apply Vl.mk (α := Int)); · with_reducible first | exact n2 | exact n3 | exact n4 | exact n5 | exact n6 | exact n7 | exact n8 | exact n9 | exact n10 | exact n11 | exact n12 | exact n13 | exact n14 | exact n15 | exact n16 | exact wd_and ls _ _ | exact wd_wrap ls _ _ | exact wd_600 ls _ _)  |  (refine vcall_pure (f := 17) (rreset_fn _) rfl ?_)  |  (refine vcall_pure (f := 44) (mix_fn _ _) rfl ?_)  |  (refine vcall_det (f := 45) (hat _) [⟨0, 0⟩] [(0, ⟨false, 1, isv .i64 ls⟩)] rfl ⟨rfl, trivial⟩ ⟨rfl, rowM_ro (isv_scal _ _), trivial⟩ ⟨rfl, noUp⟩ ?_) | (with_reducible apply sd_draw; · kernel_rfl) | (apply Sd.mk; · first | exact rfl | trivial | omega | (repeat' apply And.intro) <;> first | exact rfl | exact Nat.le_of_ble_eq_true rfl | omega | decide) | ((with_reducible apply Vl.mk (α := Int)); · (first | (with_reducible exact bits_keep _ _ _ _) | ((rewrite [tdiv_pos]); (focus (first | exact wi64 (by omega) (by omega) | exact wu32 (by omega) (by omega) | exact wi32 (by omega) (by omega))); omega) | exact tmod_pos (by omega) | exact wi64 (by omega) (by omega) | exact wu32 (by omega) (by omega) | exact wu32' _ | exact wu8 (by omega) (by omega) | exact wu64 (by omega) (by omega) | exact wi32 (by omega) (by omega) | rfl)) | ((with_reducible first | apply Vl.mk (α := Bool) | apply Vl.mk (α := Nat) | apply Vl.mk (α := ByteArray) | apply Ge.mk (α := Row) | apply Ge.mk (α := SV) | apply Ge.mk (α := AV)); · exact rfl) | (refine And.intro rfl ?_) | ((with_reducible first | apply Vl.mk (α := List SV) | apply Vl.mk (α := Ef) | apply Vl.mk (α := TV) | apply Ge.mk (α := List SV) | apply Sg.mk | apply Sk.mk); · (first | exact setAll_eq rfl | exact sg_all _ rfl | exact sk_all _ rfl rfl | ((first | apply sg_fc | apply sk_fc | (apply fc_eq; (conv => arg 1; whnf); apply fc_some) | apply fc_eq); (repeat' (first | exact fc_ren (wsv_scal _) | exact fc_ren (by assumption) | ((conv => arg 1; whnf); first | exact fc_nil | apply fc_cons | exact fc_int | exact fc_bool | exact fc_n | exact fc_ns | exact fc_ptr | exact fc_sl | exact fc_str | exact fc_unk | exact fc_fn | apply fc_s | apply fc_agg | apply fc_ta | apply fc_tup | exact fc_an | apply fc_ac | exact fc_tu | exact fc_nat | exact fc_bo | exact fc_none | apply fc_some | apply fc_pair | apply fc_row | apply fc_ef))); (all_goals exact rfl)) | ((dsimp only [Res.ef, renT, renA, renS, renN, nwN, upN, renRow, List.map_cons, List.map_nil, List.length_cons, List.length_nil]); first | done | exact rfl) | (dsimp only [setAll, List.set_cons_zero, List.set_cons_succ, List.cons_append, List.nil_append]; exact rfl) | exact rfl)) | ((first | apply Br.mk | apply Gd.mk) <;> (intro hb; first | (exact absurd hb (by decide)) | exact Bool.noConfusion (hb.symm.trans (by assumption) : true = false) | exact Bool.noConfusion (hb.symm.trans (by assumption) : false = true) | (simp only [decide_eq_true_eq, decide_eq_false_iff_not, beq_iff_eq, bne_iff_ne, beq_eq_false_iff_ne, bne_eq_false_iff_eq, Bool.not_eq_true', Bool.not_eq_false', Int.not_lt, Int.not_le, ge_iff_le, gt_iff_lt, ne_eq, Classical.not_not] at hb; first | (exfalso; omega) | skip) | skip)))); (all_goals (try (conv => whnf)))
  refine Lp.unroll 16 ?_
  (repeat' ((conv => whnf); first | ((with_reducible apply Vl.mk (α := Int)); · with_reducible first | exact n2 | exact n3 | exact n4 | exact n5 | exact n6 | exact n7 | exact n8 | exact n9 | exact n10 | exact n11 | exact n12 | exact n13 | exact n14 | exact n15 | exact n16 | exact wd_and ls _ _ | exact wd_wrap ls _ _ | exact wd_600 ls _ _)  |  (refine vcall_pure (f := 17) (rreset_fn _) rfl ?_)  |  (refine vcall_pure (f := 44) (mix_fn _ _) rfl ?_)  |  (refine vcall_det (f := 45) (hat _) [⟨0, 0⟩] [(0, ⟨false, 1, isv .i64 ls⟩)] rfl ⟨rfl, trivial⟩ ⟨rfl, rowM_ro (isv_scal _ _), trivial⟩ ⟨rfl, noUp⟩ ?_)  |  (refine vcall_det (f := 40) hn4 [] [] rfl trivial trivial ⟨rfl, noUp⟩ ?_) | (with_reducible apply sd_draw; · kernel_rfl) | (apply Sd.mk; · first | exact rfl | trivial | omega | (repeat' apply And.intro) <;> first | exact rfl | exact Nat.le_of_ble_eq_true rfl | omega | decide) | ((with_reducible apply Vl.mk (α := Int)); · (first | (with_reducible exact bits_keep _ _ _ _) | ((rewrite [tdiv_pos]); (focus (first | exact wi64 (by omega) (by omega) | exact wu32 (by omega) (by omega) | exact wi32 (by omega) (by omega))); omega) | exact tmod_pos (by omega) | exact wi64 (by omega) (by omega) | exact wu32 (by omega) (by omega) | exact wu32' _ | exact wu8 (by omega) (by omega) | exact wu64 (by omega) (by omega) | exact wi32 (by omega) (by omega) | rfl)) | ((with_reducible first | apply Vl.mk (α := Bool) | apply Vl.mk (α := Nat) | apply Vl.mk (α := ByteArray) | apply Ge.mk (α := Row) | apply Ge.mk (α := SV) | apply Ge.mk (α := AV)); · exact rfl) | (refine And.intro rfl ?_) | ((with_reducible first | apply Vl.mk (α := List SV) | apply Vl.mk (α := Ef) | apply Vl.mk (α := TV) | apply Ge.mk (α := List SV) | apply Sg.mk | apply Sk.mk); · (first | exact setAll_eq rfl | exact sg_all _ rfl | exact sk_all _ rfl rfl | ((first | apply sg_fc | apply sk_fc | (apply fc_eq; (conv => arg 1; whnf); apply fc_some) | apply fc_eq); (repeat' (first | exact fc_ren (wsv_scal _) | exact fc_ren (by assumption) | ((conv => arg 1; whnf); first | exact fc_nil | apply fc_cons | exact fc_int | exact fc_bool | exact fc_n | exact fc_ns | exact fc_ptr | exact fc_sl | exact fc_str | exact fc_unk | exact fc_fn | apply fc_s | apply fc_agg | apply fc_ta | apply fc_tup | exact fc_an | apply fc_ac | exact fc_tu | exact fc_nat | exact fc_bo | exact fc_none | apply fc_some | apply fc_pair | apply fc_row | apply fc_ef))); (all_goals exact rfl)) | ((dsimp only [Res.ef, renT, renA, renS, renN, nwN, upN, renRow, List.map_cons, List.map_nil, List.length_cons, List.length_nil]); first | done | exact rfl) | (dsimp only [setAll, List.set_cons_zero, List.set_cons_succ, List.cons_append, List.nil_append]; exact rfl) | exact rfl)) | ((first | apply Br.mk | apply Gd.mk) <;> (intro hb; first | (exact absurd hb (by decide)) | exact Bool.noConfusion (hb.symm.trans (by assumption) : true = false) | exact Bool.noConfusion (hb.symm.trans (by assumption) : false = true) | (simp only [decide_eq_true_eq, decide_eq_false_iff_not, beq_iff_eq, bne_iff_ne, beq_eq_false_iff_ne, bne_eq_false_iff_eq, Bool.not_eq_true', Bool.not_eq_false', Int.not_lt, Int.not_le, ge_iff_le, gt_iff_lt, ne_eq, Classical.not_not] at hb; first | (exfalso; omega) | skip) | skip)))); (all_goals (try (conv => whnf)))
  · refine Lp.inv (fun m σ => ∃ j : Nat, m + j = 128 ∧ σ = pst ls n pc w j (regsV ls) (M j)) ?_ ?_
    · refine ⟨128, pst ls n pc w 0 (regsV ls) (M 0), ?_, 0, by omega, rfl⟩
      apply wk_of (m := [(0, some 0), (1, some 65536), (2, some 131200), (3, some 4718592)])
      · repeat' (first | exact tml_nil | apply tml_cons)
        all_goals first | exact tvm_a (avm_s (svm_same rfl)) | exact tvm_a (avm_s (svm_ptr rfl)) | exact tvm_a (avm_s (svm_sl rfl))
      · show HlS _ _ [] _
        apply hls_row
        · exact rowmt_mk rfl rfl rfl rfl (svsm_scal (isv_scal _ _))
        apply hls_row
        · exact rowmt_mk rfl rfl rfl rfl (svsm_scal rfl)
        apply hls_row
        · exact rowmt_mk rfl rfl rfl rfl (svsm_scal rfl)
        apply hls_row
        · exact rowmt_mk rfl rfl rfl rfl (svsm_scal (hsc _))
        exact hls_nil
      · rfl
    · rintro m σ ⟨j, hm, rfl⟩
      unfold pst
      have j20 : j < 128 → IntKind.i64.wrap (20 + (j : Int)) = 20 + (j : Int) := fun h => wi64 (by omega) (by omega)
      have j1 : j < 128 → IntKind.i64.wrap ((j : Int) + 1) = ((j + 1 : Nat) : Int) := fun h => by rw [wi64 (by omega) (by omega)]; omega
      have hj := hlen j
      have hsj := hsc j
      have hs2 := hset j
      have hsj1 := hsc (j + 1)
      have hln := hln j
      have hf2 : ¬ (j : Int) < 128 → setAll (M j) (pc / 4) [.int .u32 w] = MF := fun h => by
        obtain rfl : j = 128 := by omega
        exact hfin
      generalize hMj : M j = Mj at *
      generalize hMj1 : M (j + 1) = Mj1 at *
      (repeat' ((conv => whnf); first | ((with_reducible apply Vl.mk (α := Int)); · with_reducible first | exact j20 (by omega) | exact j1 (by omega) | exact wd_and ls _ _ | exact wd_wrap ls _ _)  |  (refine vcall_pure (f := 44) (mix_fn _ _) rfl ?_)  |  (refine vcall_det (f := 45) (hat _) [⟨0, 0⟩] [(0, ⟨false, 1, isv .i64 ls⟩)] rfl ⟨rfl, trivial⟩ ⟨rfl, rowM_ro (isv_scal _ _), trivial⟩ ⟨rfl, noUp⟩ ?_)  |  (apply Sd.mk; · refine ⟨rfl, rfl, rfl, ?_⟩; show _ + 1 ≤ Mj.length; omega)  |  ((with_reducible apply Vl.mk (α := Nat)); · first | exact hln | exact hlp)  |  ((with_reducible apply Vl.mk (α := List SV)); · with_reducible first | exact hs2 (by omega) | exact hf2 (by omega)) | (with_reducible apply sd_draw; · kernel_rfl) | (apply Sd.mk; · first | exact rfl | trivial | omega | (repeat' apply And.intro) <;> first | exact rfl | exact Nat.le_of_ble_eq_true rfl | omega | decide) | ((with_reducible apply Vl.mk (α := Int)); · (first | (with_reducible exact bits_keep _ _ _ _) | ((rewrite [tdiv_pos]); (focus (first | exact wi64 (by omega) (by omega) | exact wu32 (by omega) (by omega) | exact wi32 (by omega) (by omega))); omega) | exact tmod_pos (by omega) | exact wi64 (by omega) (by omega) | exact wu32 (by omega) (by omega) | exact wu32' _ | exact wu8 (by omega) (by omega) | exact wu64 (by omega) (by omega) | exact wi32 (by omega) (by omega) | rfl)) | ((with_reducible first | apply Vl.mk (α := Bool) | apply Vl.mk (α := Nat) | apply Vl.mk (α := ByteArray) | apply Ge.mk (α := Row) | apply Ge.mk (α := SV) | apply Ge.mk (α := AV)); · exact rfl) | (refine And.intro rfl ?_) | ((with_reducible first | apply Vl.mk (α := List SV) | apply Vl.mk (α := Ef) | apply Vl.mk (α := TV) | apply Ge.mk (α := List SV) | apply Sg.mk | apply Sk.mk); · (first | exact setAll_eq rfl | exact sg_all _ rfl | exact sk_all _ rfl rfl | ((first | apply sg_fc | apply sk_fc | (apply fc_eq; (conv => arg 1; whnf); apply fc_some) | apply fc_eq); (repeat' (first | exact fc_ren (wsv_scal _) | exact fc_ren (by assumption) | ((conv => arg 1; whnf); first | exact fc_nil | apply fc_cons | exact fc_int | exact fc_bool | exact fc_n | exact fc_ns | exact fc_ptr | exact fc_sl | exact fc_str | exact fc_unk | exact fc_fn | apply fc_s | apply fc_agg | apply fc_ta | apply fc_tup | exact fc_an | apply fc_ac | exact fc_tu | exact fc_nat | exact fc_bo | exact fc_none | apply fc_some | apply fc_pair | apply fc_row | apply fc_ef))); (all_goals exact rfl)) | ((dsimp only [Res.ef, renT, renA, renS, renN, nwN, upN, renRow, List.map_cons, List.map_nil, List.length_cons, List.length_nil]); first | done | exact rfl) | (dsimp only [setAll, List.set_cons_zero, List.set_cons_succ, List.cons_append, List.nil_append]; exact rfl) | exact rfl)) | ((first | apply Br.mk | apply Gd.mk) <;> (intro hb; first | (exact absurd hb (by decide)) | exact Bool.noConfusion (hb.symm.trans (by assumption) : true = false) | exact Bool.noConfusion (hb.symm.trans (by assumption) : false = true) | (simp only [decide_eq_true_eq, decide_eq_false_iff_not, beq_iff_eq, bne_iff_ne, beq_eq_false_iff_ne, bne_eq_false_iff_eq, Bool.not_eq_true', Bool.not_eq_false', Int.not_lt, Int.not_le, ge_iff_le, gt_iff_lt, ne_eq, Classical.not_not] at hb; first | (exfalso; omega) | skip) | skip)))); (all_goals (try (conv => whnf)))
      · refine ⟨m - 1, pst ls n pc w (j + 1) (regsV ls) (M (j + 1)), by omega, ?_, j + 1, by omega, rfl⟩
        rw [hMj1]
        apply wk_of (m := [(0, some 0), (1, some 1), (2, some 2), (3, some 3)])
        · repeat' (first | exact tml_nil | apply tml_cons)
          all_goals first | exact tvm_a (avm_s (svm_same rfl)) | exact tvm_a (avm_s (svm_ptr rfl)) | exact tvm_a (avm_s (svm_sl rfl))
        · show HlS _ _ [] _
          apply hls_row
          · exact rowmt_mk rfl rfl rfl rfl (svsm_scal his)
          apply hls_row
          · exact rowmt_mk rfl rfl rfl rfl (svsm_scal rfl)
          apply hls_row
          · exact rowmt_mk rfl rfl rfl rfl (svsm_scal rfl)
          apply hls_row
          · exact rowmt_mk rfl rfl rfl rfl (svsm_scal hsj1)
          exact hls_nil
        · rfl
      · (apply Fin.mk (m := [(0, some 0), (1, some 3)]); (focus exact rfl); (all_goals ((try (show HlS _ _ [] _)); first | ((repeat' (first | exact SVsM.nil | exact avsm_nil | exact svm_same rfl | exact svm_ptr rfl | exact svm_sl rfl | exact svm_slnil rfl | exact svsm_scal rfl | exact svsm_scal (wsv_scal _) | exact svsm_scal (by assumption) | exact hls_nil | apply SVsM.cons | apply tvm_a | apply tvm_tup | apply avm_agg | apply avm_s | apply avsm_cons | exact trivial | (refine hls_skip rfl ?_) | apply hls_none | apply hls_row | (refine rowmt_mk rfl rfl rfl rfl ?_) | exact rowmt_nil rfl rfl)); done) | exact rfl)))
end Go.Proofs.Ytckdamhnmcmbbaa
