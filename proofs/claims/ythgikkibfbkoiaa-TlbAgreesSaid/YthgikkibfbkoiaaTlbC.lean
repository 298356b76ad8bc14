/- Buffers of translations: toFront (UNDER WAY). -/
import Derived.Test.YthgikkibfbkoiaaTlbB
namespace Go.Proofs.Ythgikkibfbkoiaa
open Go Go.RowKit
set_option linter.unusedSimpArgs false
set_option linter.unusedVariables false

/-- The i-th moved to the front. -/
def frontT (t : List Te) (i : Nat) (e : Te) : List Te := e :: (t.take i ++ t.drop (i + 1))
theorem tes_pre (t : List Te) (N i : Nat) (hN : t.length = N) (hi : i ≤ N) : (tes (t.take i)).length = i * 4 ∧ allKnown (tes (t.take i)) = true ∧ ∀ (j : Nat) s, (tes (t.take i))[j]? = some s → (tes t)[0 + j]? = some s :=
  ⟨by rw [tes_len, List.length_take, hN]; congr 1; omega, tes_known _, fun j s hs => by
    have e : tes t = tes (t.take i) ++ tes (t.drop i) := by rw [← tes_app, List.take_append_drop]
    rw [Nat.zero_add, e, List.getElem?_append_left (List.getElem?_eq_some_iff.1 hs).1]; exact hs⟩
theorem tes_suf (t : List Te) (N i : Nat) (hN : t.length = N) (hi : i ≤ N) : (tes (t.drop i)).length = (N - i) * 4 ∧ allKnown (tes (t.drop i)) = true ∧ ∀ (j : Nat) s, (tes (t.drop i))[j]? = some s → (tes t)[i * 4 + j]? = some s :=
  ⟨by rw [tes_len, List.length_drop, hN], tes_known _, fun j s hs => by
    have e : tes t = tes (t.take i) ++ tes (t.drop i) := by rw [← tes_app, List.take_append_drop]
    have hl : (tes (t.take i)).length = i * 4 := (tes_pre t N i hN hi).1
    rw [e, List.getElem?_append_right (by omega), hl, Nat.add_sub_cancel_left]; exact hs⟩
set_option maxHeartbeats 600000 in
set_option maxRecDepth 100000 in
theorem toFront_fn (t : List Te) (N i : Nat) (e : Te) (hN : t.length = N) (hN2 : N ≤ 1000000) (he : t[i]? = some e) :
    Fn Try.prog 27 [.s (.sl 0 0 N), .s (.int .i64 i)] [⟨false, 4, tes t⟩] (· = ⟨.a (.s (.sl 1 0 N)), [], [⟨true, 4, tes (frontT t i e)⟩]⟩) := by
  have hi : i < N := by rw [← hN]; exact (List.getElem?_eq_some_iff.1 he).1
  have hst := tes_scal t
  have seg := tes_seg t i e he
  have hlt := tes_len t
  have hkt := tes_known t
  have q1 : IntKind.i64.wrap ((i : Int) + 1) = ((i + 1 : Nat) : Int) := by rw [wi64 (by omega) (by omega)]; omega
  have x1 : 0 + ((i : Nat) : Int).toNat * ty26.size = i * 4 := by show 0 + ((i : Nat) : Int).toNat * 4 = _; omega
  have s1 := tes_pre t N i hN (by omega)
  have s2 := tes_suf t N (i + 1) hN (by omega)
  have hf1 : e.C ++ tes (t.take i) = tes (e :: t.take i) := rfl
  have hf2 : tes (e :: t.take i) ++ tes (t.drop (i + 1)) = tes (frontT t i e) := by
    rw [← tes_app]; rfl
  have hl1 : (tes (e :: t.take i)).length = (1 + i) * 4 := by rw [tes_len, List.length_cons, List.length_take, hN]; congr 1; omega
  have hsF := tes_scal (frontT t i e)
  have y1 : 0 + (0 : Int).toNat * ty26.size = 0 := rfl
  have y2 : ((i : Int) - 0).toNat = i := by omega
  have y3 : 0 + ((i + 1 : Nat) : Int).toNat * ty26.size = (i + 1) * 4 := by show 0 + ((i + 1 : Nat) : Int).toNat * 4 = _; omega
  have y4 : ((N : Int) - ((i + 1 : Nat) : Int)).toNat = N - (i + 1) := by omega
  have y5 : Int.toNat 0 + 1 + ((i : Int) - (some (0 : Int)).getD 0).toNat = 1 + i := by show 0 + 1 + ((i : Int) - 0).toNat = _; omega
  have y6 : ((some (N : Int)).getD 0 - ((i + 1 : Nat) : Int)).toNat = N - (i + 1) := by show ((N : Int) - ((i + 1 : Nat) : Int)).toNat = N - (i + 1); omega
  have y7 : 1 + i + ((N : Int) - ((i + 1 : Nat) : Int)).toNat = N := by omega
  have n1 : 1 + i + (N - (i + 1)) = N := by omega
  obtain ⟨p, f, w, x⟩ := e
  dsimp only [Te.C] at seg hf1
  generalize tes (frontT t i ⟨p, f, w, x⟩) = FF at *
  generalize tes (⟨p, f, w, x⟩ :: t.take i) = R1 at *
  generalize tes (t.take i) = T1 at *
  generalize tes (t.drop (i + 1)) = T2 at *
  generalize hTT : tes t = TT at *
  refine fn_of_vc mixed tys_ok _ _ Try.func27 (by kernel_rfl) rfl Try.ntmps27 (by rw [Try.results27]) rfl ?_; dsimp only [argTm, argHl, Nat.zero_add, Nat.reduceAdd, List.length_nil, List.length_cons]
  (repeat' ((conv => whnf); first | ((with_reducible apply Vl.mk (α := Int)); · with_reducible first | exact q1)  |  (refine Zs.mk [] ⟨rfl, fun k s h => by simp at h⟩ ?_)  |  ((with_reducible apply Vl.mk (α := Nat)); · with_reducible first | exact x1 | exact n1 | exact y1 | exact y2 | exact y3 | exact y4 | exact y5 | exact y6 | exact y7)  |  (apply Sg.mk; · exact seg)  |  (apply Sk.mk; · first | exact s1 | exact s2)  |  (apply Sd.mk; · first | (refine ⟨rfl, by show (0:Int) ≤ 0; omega, by show (0:Int) ≤ i; omega, by omega⟩) | (refine ⟨rfl, by show (0:Int) ≤ ((i + 1 : Nat) : Int); omega, by show ((i + 1 : Nat) : Int) ≤ (N : Int); omega, by show (N : Int) ≤ N; omega⟩) | (refine ⟨by omega, by omega, ?_, by omega⟩; show (12 : Int) * N ≤ _; omega) | (refine ⟨rfl, rfl, rfl, by show (0 + 1) * 12 ≤ _; omega, by omega⟩) | (refine ⟨rfl, rfl, rfl, by show (Int.toNat 0 + 1 + ((i : Int) - 0).toNat) * 12 ≤ _; omega, by show Int.toNat 0 + 1 + ((i : Int) - 0).toNat ≤ _; omega⟩) | (refine ⟨rfl, rfl, by show R1.length = (1 + i) * 4; omega, by show (1 + i + (N - (i + 1))) * 12 ≤ _; omega, by omega⟩))  |  ((with_reducible apply Vl.mk (α := List SV)); · with_reducible first | exact hf1 | exact hf2) | (with_reducible apply sd_draw; · kernel_rfl) | (apply Sd.mk; · first | exact rfl | trivial | omega | (repeat' apply And.intro) <;> first | exact rfl | exact Nat.le_of_ble_eq_true rfl | omega | decide) | ((with_reducible apply Vl.mk (α := Int)); · (first | (with_reducible exact bits_keep _ _ _ _) | ((rewrite [tdiv_pos]); (focus (first | exact wi64 (by omega) (by omega) | exact wu32 (by omega) (by omega) | exact wi32 (by omega) (by omega))); omega) | exact tmod_pos (by omega) | exact wi64 (by omega) (by omega) | exact wu32 (by omega) (by omega) | exact wu32' _ | exact wu8 (by omega) (by omega) | exact wu64 (by omega) (by omega) | exact wi32 (by omega) (by omega) | rfl)) | ((with_reducible first | apply Vl.mk (α := Bool) | apply Vl.mk (α := Nat) | apply Vl.mk (α := ByteArray) | apply Ge.mk (α := Row) | apply Ge.mk (α := SV) | apply Ge.mk (α := AV)); · exact rfl) | (refine And.intro rfl ?_) | ((with_reducible first | apply Vl.mk (α := List SV) | apply Vl.mk (α := Ef) | apply Vl.mk (α := TV) | apply Ge.mk (α := List SV) | apply Sg.mk | apply Sk.mk); · (first | exact setAll_eq rfl | exact sg_all _ rfl | exact sk_all _ rfl rfl | ((first | apply sg_fc | apply sk_fc | (apply fc_eq; (conv => arg 1; whnf); apply fc_some) | apply fc_eq); (repeat' (first | exact fc_ren (wsv_scal _) | exact fc_ren (by assumption) | ((conv => arg 1; whnf); first | exact fc_nil | apply fc_cons | exact fc_int | exact fc_bool | exact fc_n | exact fc_ns | exact fc_ptr | exact fc_sl | exact fc_str | exact fc_unk | exact fc_fn | apply fc_s | apply fc_agg | apply fc_ta | apply fc_tup | exact fc_an | apply fc_ac | exact fc_tu | exact fc_nat | exact fc_bo | exact fc_none | apply fc_some | apply fc_pair | apply fc_row | apply fc_ef))); (all_goals exact rfl)) | ((dsimp only [Res.ef, renT, renA, renS, renN, nwN, upN, renRow, List.map_cons, List.map_nil, List.length_cons, List.length_nil]); first | done | exact rfl) | (dsimp only [setAll, List.set_cons_zero, List.set_cons_succ, List.cons_append, List.nil_append]; exact rfl) | exact rfl)) | ((first | apply Br.mk | apply Gd.mk) <;> (intro hb; first | (exact absurd hb (by decide)) | exact Bool.noConfusion (hb.symm.trans (by assumption) : true = false) | exact Bool.noConfusion (hb.symm.trans (by assumption) : false = true) | (simp only [decide_eq_true_eq, decide_eq_false_iff_not, beq_iff_eq, bne_iff_ne, beq_eq_false_iff_ne, bne_eq_false_iff_eq, Bool.not_eq_true', Bool.not_eq_false', Int.not_lt, Int.not_le, ge_iff_le, gt_iff_lt, ne_eq, Classical.not_not] at hb; first | (exfalso; omega) | skip) | skip)))); (all_goals (try (conv => whnf)))
  all_goals first | (apply Fin.mk (m := [(0, some 0), (1, some _)]); (focus exact rfl); (all_goals ((try (show HlS _ _ [] _)); first | ((repeat' (first | exact SVsM.nil | exact avsm_nil | exact svm_same rfl | exact svm_ptr rfl | exact svm_sl rfl | exact svm_slnil rfl | exact svsm_scal rfl | exact svsm_scal (wsv_scal _) | exact svsm_scal (by assumption) | exact hls_nil | apply SVsM.cons | apply tvm_a | apply tvm_tup | apply avm_agg | apply avm_s | apply avsm_cons | exact trivial | (refine hls_skip rfl ?_) | apply hls_none | apply hls_row | (refine rowmt_mk rfl rfl rfl rfl ?_) | exact rowmt_nil rfl rfl)); done) | exact rfl))) | trace_state
end Go.Proofs.Ythgikkibfbkoiaa
