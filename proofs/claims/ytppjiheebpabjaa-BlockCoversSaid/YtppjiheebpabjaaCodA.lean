/- Code: words of instructions made from numbers; new memories. -/
import Derived.Test.YtppjiheebpabjaaEncB
import Derived.Test.YtppjiheebpabjaaFns
namespace Go.Proofs.Ytppjiheebpabjaa
open Go Go.RowKit
set_option linter.unusedSimpArgs false
set_option linter.unusedVariables false

theorem codA32 (x : Int) : bits .and .i64 x 4294967295 = x % 4294967296 := by
  have e : ((BitVec.ofInt 64 x) &&& (BitVec.ofInt 64 4294967295)).toNat = (x % 4294967296).toNat := by
    rw [BitVec.toNat_and, show (BitVec.ofInt 64 4294967295).toNat = 2 ^ 32 - 1 by simp [BitVec.toNat_ofInt], Nat.and_two_pow_sub_one_eq_mod, BitVec.toNat_ofInt]
    simp only [Nat.reducePow]
    omega
  show IntKind.i64.wrap (((BitVec.ofInt 64 x) &&& (BitVec.ofInt 64 4294967295)).toNat : Int) = _
  rw [e, wi64 (by omega) (by omega)]; omega
def encI : List SV → Nat
  | [.int _ o, .int _ a, .int _ b, .int _ c, .int _ m] => (encV o a b c m).toNat
  | _ => 0
theorem encI_fn (n : Int) : Fn Try.prog 9 [.agg (instV n)] [] (· = ⟨.tup [.s (.int .u32 (encI (instV n) : Nat)), .s (.bool true)], [], []⟩) ∧ encI (instV n) < 4294967296 ∧ ∃ o a b c m : Int, instV n = iv o a b c m := by
  obtain ⟨o, a, b, c, m, h1, h2, h3, h4, h5⟩ := inst_ok n
  have he := enc_lt h2
  have e : encI (instV n) = (encV o a b c m).toNat := by rw [h1]; rfl
  rw [e, h1, Int.toNat_of_nonneg he.1]
  exact ⟨encode_fn o a b c m ⟨h3, h4⟩ h2, by omega, o, a, b, c, m, rfl⟩
def cw (x : Int) : Nat := if x % 17 = 0 then (x % 4294967296).toNat else encI (instV x)
theorem cw_lt (x : Int) : cw x < 4294967296 := by
  unfold cw
  split
  · omega
  · exact (encI_fn x).2.1
def codeL (ls : List Int) : List Nat := ls.map cw
theorem wsv_app (a b : List Nat) : wsv (a ++ b) = wsv a ++ wsv b := by unfold wsv; rw [List.map_append]
def cdst (n : Nat) (L : List SV) (i : Nat) (R : List SV) : St :=
  ⟨[(0, .a (.s (.sl 0 0 n))), (3, .a (.s (.sl 1 0 i))), (4, .a (.s (.int .i64 i)))], [(0, some ⟨false, 1, L⟩), (1, some ⟨true, 1, R⟩)], [0]⟩
theorem codeL_len (ls : List Int) : (codeL ls).length = ls.length := by unfold codeL; rw [List.length_map]
theorem codeL_lt (ls : List Int) : ∀ y ∈ codeL ls, y < 4294967296 := fun y hy => by
  obtain ⟨x, _, rfl⟩ := List.mem_map.1 hy
  exact cw_lt x
set_option maxHeartbeats 1000000 in
set_option maxRecDepth 100000 in
theorem code_fn (ls : List Int) (n : Nat) (hn : ls.length = n) (hn2 : n * 8 ≤ 140737488351232) : Fn Try.prog 17 [.s (.sl 0 0 n)] [⟨false, 1, isv .i64 ls⟩] (· = ⟨.a (.s (.sl 1 0 n)), [], [⟨true, 1, wsv (codeL ls)⟩]⟩) := by
  have hsc := isv_scal .i64 ls
  refine fn_of_vc mixed tys_ok _ _ Try.func17 (by kernel_rfl) rfl Try.ntmps17 (by rw [Try.results17]) rfl ?_; dsimp only [argTm, argHl, Nat.zero_add, Nat.reduceAdd, List.length_nil, List.length_cons]
  (repeat' ((conv => whnf); first | (with_reducible apply sd_draw; · kernel_rfl) | (apply Sd.mk; · first | exact rfl | trivial | omega | (repeat' apply And.intro) <;> first | exact rfl | exact Nat.le_of_ble_eq_true rfl | omega | decide) | ((with_reducible apply Vl.mk (α := Int)); · (first | (with_reducible exact bits_keep _ _ _ _) | ((rewrite [tdiv_pos]); (focus (first | exact wi64 (by omega) (by omega) | exact wu32 (by omega) (by omega) | exact wi32 (by omega) (by omega))); omega) | exact tmod_pos (by omega) | exact wi64 (by omega) (by omega) | exact wu32 (by omega) (by omega) | exact wu32' _ | exact wu8 (by omega) (by omega) | exact wu64 (by omega) (by omega) | exact wi32 (by omega) (by omega) | rfl)) | ((with_reducible first | apply Vl.mk (α := Bool) | apply Vl.mk (α := Nat) | apply Vl.mk (α := ByteArray) | apply Ge.mk (α := Row) | apply Ge.mk (α := SV) | apply Ge.mk (α := AV)); · exact rfl) | (refine And.intro rfl ?_) | ((with_reducible first | apply Vl.mk (α := List SV) | apply Vl.mk (α := Ef) | apply Vl.mk (α := TV) | apply Ge.mk (α := List SV) | apply Sg.mk | apply Sk.mk); · (first | exact setAll_eq rfl | exact sg_all _ rfl | exact sk_all _ rfl rfl | ((first | apply sg_fc | apply sk_fc | (apply fc_eq; (conv => arg 1; whnf); apply fc_some) | apply fc_eq); (repeat' (first | exact fc_ren (wsv_scal _) | exact fc_ren (by assumption) | ((conv => arg 1; whnf); first | exact fc_nil | apply fc_cons | exact fc_int | exact fc_bool | exact fc_n | exact fc_ns | exact fc_ptr | exact fc_sl | exact fc_str | exact fc_unk | exact fc_fn | apply fc_s | apply fc_agg | apply fc_ta | apply fc_tup | exact fc_an | apply fc_ac | exact fc_tu | exact fc_nat | exact fc_bo | exact fc_none | apply fc_some | apply fc_pair | apply fc_row | apply fc_ef))); (all_goals exact rfl)) | ((dsimp only [Res.ef, renT, renA, renS, renN, nwN, upN, renRow, List.map_cons, List.map_nil, List.length_cons, List.length_nil]); first | done | exact rfl) | (dsimp only [setAll, List.set_cons_zero, List.set_cons_succ, List.cons_append, List.nil_append]; exact rfl) | exact rfl)) | ((first | apply Br.mk | apply Gd.mk) <;> (intro hb; first | (exact absurd hb (by decide)) | exact Bool.noConfusion (hb.symm.trans (by assumption) : true = false) | exact Bool.noConfusion (hb.symm.trans (by assumption) : false = true) | (simp only [decide_eq_true_eq, decide_eq_false_iff_not, beq_iff_eq, bne_iff_ne, beq_eq_false_iff_ne, bne_eq_false_iff_eq, Bool.not_eq_true', Bool.not_eq_false', Int.not_lt, Int.not_le, ge_iff_le, gt_iff_lt, ne_eq, Classical.not_not] at hb; first | (exfalso; omega) | skip) | skip)))); (all_goals (try (conv => whnf)))
  refine Lp.inv (fun mm σ => ∃ (i : Nat), mm + i = n ∧ σ = cdst n (isv .i64 ls) i (wsv (codeL (ls.take i)))) ?_ ?_
  · refine ⟨n, cdst n (isv .i64 ls) 0 [], ?_, 0, by omega, by rw [List.take_zero]; rfl⟩
    apply wk_of (m := [(0, some 0), (1, none)])
    · repeat' (first | exact tml_nil | apply tml_cons)
      all_goals first | exact tvm_a (avm_s (svm_same rfl)) | exact tvm_a (avm_s (svm_slnil rfl)) | exact tvm_a (avm_s (svm_sl rfl))
    · show HlS _ _ [] _
      refine hls_row (rowmt_mk rfl rfl rfl rfl (svsm_scal hsc)) ?_
      refine hls_row (rowmt_nil rfl rfl) ?_
      exact hls_nil
    · rfl
  · rintro mm σ ⟨i, hmi, rfl⟩
    unfold cdst
    by_cases hi : i < n
    · obtain ⟨x, hx⟩ : ∃ x, ls[i]? = some x := ⟨ls[i]'(by omega), List.getElem?_eq_getElem (by omega)⟩
      have hge : (isv .i64 ls)[0 + ((i : Nat) : Int).toNat * 1]? = some (.int .i64 x) := by
        rw [Nat.zero_add, Nat.mul_one, Int.toNat_natCast, isv_get .i64 ls i (by omega)]
        rw [List.getD_eq_getElem?_getD, hx]; rfl
      have htk : codeL (ls.take (i + 1)) = codeL (ls.take i) ++ [cw x] := by
        unfold codeL
        rw [List.take_add_one, hx, List.map_append]; rfl
      have hlen : (wsv (codeL (ls.take i))).length = i := by simp [codeL]; omega
      have happ : wsv (codeL (ls.take i)) ++ [.int .u32 (cw x : Nat)] = wsv (codeL (ls.take (i + 1))) := by rw [htk, wsv_app]; rfl
      have hRs := wsv_scal (codeL (ls.take (i + 1)))
      have q2 : IntKind.i64.wrap ((i : Int) + 1) = ((i + 1 : Nat) : Int) := by rw [wi64 (by omega) (by omega)]; omega
      have hi1 := inst_fn x
      have he := encI_fn x
      obtain ⟨he1, he2, o, a, b, c, m, he3⟩ := he
      have a32 := codA32 x
      have hc1 : x % 17 = 0 → x % 4294967296 = ((cw x : Nat) : Int) := fun h => by unfold cw; rw [if_pos h]; omega
      have hc2 : x % 17 ≠ 0 → cw x = encI (instV x) := fun h => by unfold cw; rw [if_neg h]
      have hm17 : ∀ t : Int, x.tmod 17 = t → (t = 0 ↔ x % 17 = 0) := fun t h => by
        rw [← h, Int.tmod_eq_emod]
        split <;> omega
      rw [he3] at hi1 he1 hc2
      generalize hR2d : codeL (ls.take (i + 1)) = R2 at *
      generalize wsv (codeL (ls.take i)) = RR at *
      generalize hRM : wsv R2 = RM at *
      generalize encI (iv o a b c m) = E at *
      generalize hCW : cw x = CW at *
      generalize hLL : isv .i64 ls = LL at *
      by_cases h17 : x % 17 = 0
      · have t17 : x.tmod 17 = 0 := by rw [Int.tmod_eq_emod]; split <;> omega
        have g1 := hc1 h17
        rw [g1] at a32
        have g2 : IntKind.u32.wrap ((CW : Nat) : Int) = ((CW : Nat) : Int) := wu32 (by omega) (by omega)
        unfold iv at hi1 he1
        (repeat' ((conv => whnf); first | ((with_reducible apply Vl.mk (α := Int)); · with_reducible first | exact q2 | exact t17 | exact a32 | exact g2)  |  (apply Sd.mk; · refine ⟨rfl, rfl, ?_, ?_, ?_⟩; (focus (show RR.length = i * 1; omega)); (focus (show (i + 1) * 4 ≤ _; omega)); (focus omega))  |  ((with_reducible apply Vl.mk (α := List SV)); · with_reducible exact happ)  |  ((with_reducible apply Ge.mk (α := SV)); · exact hge) | (with_reducible apply sd_draw; · kernel_rfl) | (apply Sd.mk; · first | exact rfl | trivial | omega | (repeat' apply And.intro) <;> first | exact rfl | exact Nat.le_of_ble_eq_true rfl | omega | decide) | ((with_reducible apply Vl.mk (α := Int)); · (first | (with_reducible exact bits_keep _ _ _ _) | ((rewrite [tdiv_pos]); (focus (first | exact wi64 (by omega) (by omega) | exact wu32 (by omega) (by omega) | exact wi32 (by omega) (by omega))); omega) | exact tmod_pos (by omega) | exact wi64 (by omega) (by omega) | exact wu32 (by omega) (by omega) | exact wu32' _ | exact wu8 (by omega) (by omega) | exact wu64 (by omega) (by omega) | exact wi32 (by omega) (by omega) | rfl)) | ((with_reducible first | apply Vl.mk (α := Bool) | apply Vl.mk (α := Nat) | apply Vl.mk (α := ByteArray) | apply Ge.mk (α := Row) | apply Ge.mk (α := SV) | apply Ge.mk (α := AV)); · exact rfl) | (refine And.intro rfl ?_) | ((with_reducible first | apply Vl.mk (α := List SV) | apply Vl.mk (α := Ef) | apply Vl.mk (α := TV) | apply Ge.mk (α := List SV) | apply Sg.mk | apply Sk.mk); · (first | exact setAll_eq rfl | exact sg_all _ rfl | exact sk_all _ rfl rfl | ((first | apply sg_fc | apply sk_fc | (apply fc_eq; (conv => arg 1; whnf); apply fc_some) | apply fc_eq); (repeat' (first | exact fc_ren (wsv_scal _) | exact fc_ren (by assumption) | ((conv => arg 1; whnf); first | exact fc_nil | apply fc_cons | exact fc_int | exact fc_bool | exact fc_n | exact fc_ns | exact fc_ptr | exact fc_sl | exact fc_str | exact fc_unk | exact fc_fn | apply fc_s | apply fc_agg | apply fc_ta | apply fc_tup | exact fc_an | apply fc_ac | exact fc_tu | exact fc_nat | exact fc_bo | exact fc_none | apply fc_some | apply fc_pair | apply fc_row | apply fc_ef))); (all_goals exact rfl)) | ((dsimp only [Res.ef, renT, renA, renS, renN, nwN, upN, renRow, List.map_cons, List.map_nil, List.length_cons, List.length_nil]); first | done | exact rfl) | (dsimp only [setAll, List.set_cons_zero, List.set_cons_succ, List.cons_append, List.nil_append]; exact rfl) | exact rfl)) | ((first | apply Br.mk | apply Gd.mk) <;> (intro hb; first | (exact absurd hb (by decide)) | exact Bool.noConfusion (hb.symm.trans (by assumption) : true = false) | exact Bool.noConfusion (hb.symm.trans (by assumption) : false = true) | (simp only [decide_eq_true_eq, decide_eq_false_iff_not, beq_iff_eq, bne_iff_ne, beq_eq_false_iff_ne, bne_eq_false_iff_eq, Bool.not_eq_true', Bool.not_eq_false', Int.not_lt, Int.not_le, ge_iff_le, gt_iff_lt, ne_eq, Classical.not_not] at hb; first | (exfalso; omega) | skip) | skip)))); (all_goals (try (conv => whnf)))
        all_goals first
          | (refine ⟨mm - 1, cdst n LL (i + 1) RM, by omega, ?_, i + 1, by omega, by rw [hR2d, hRM]; rfl⟩
             apply wk_of (m := [(0, some 0), (1, some _)])
             · repeat' (first | exact tml_nil | apply tml_cons)
               all_goals first | exact tvm_a (avm_s (svm_same rfl)) | exact tvm_a (avm_s (svm_sl rfl))
             · show HlS _ _ [] _
               refine hls_row (rowmt_mk rfl rfl rfl rfl (svsm_scal hsc)) ?_
               refine hls_row (rowmt_mk rfl rfl rfl rfl (svsm_scal hRs)) ?_
               exact hls_nil
             · rfl)
          | trace_state
      · have t17 : (x.tmod 17 == 0) = false := by
          rw [beq_eq_false_iff_ne, Int.tmod_eq_emod]; split <;> omega
        have g3 := hc2 h17
        subst g3
        unfold iv at hi1 he1
        (repeat' ((conv => whnf); first | ((with_reducible apply Vl.mk (α := Int)); · with_reducible first | exact q2 | exact a32 | exact rfl)  |  (apply Sd.mk; · refine ⟨rfl, rfl, ?_, ?_, ?_⟩; (focus (show RR.length = i * 1; omega)); (focus (show (i + 1) * 4 ≤ _; omega)); (focus omega))  |  ((with_reducible apply Vl.mk (α := List SV)); · with_reducible exact happ)  |  ((with_reducible apply Ge.mk (α := SV)); · exact hge)  |  ((with_reducible apply Vl.mk (α := Bool)); · with_reducible exact t17)  |  (refine vcall_pure (f := 10) (hi1) rfl ?_)  |  (refine vcall_pure (f := 9) (he1) rfl ?_) | (with_reducible apply sd_draw; · kernel_rfl) | (apply Sd.mk; · first | exact rfl | trivial | omega | (repeat' apply And.intro) <;> first | exact rfl | exact Nat.le_of_ble_eq_true rfl | omega | decide) | ((with_reducible apply Vl.mk (α := Int)); · (first | (with_reducible exact bits_keep _ _ _ _) | ((rewrite [tdiv_pos]); (focus (first | exact wi64 (by omega) (by omega) | exact wu32 (by omega) (by omega) | exact wi32 (by omega) (by omega))); omega) | exact tmod_pos (by omega) | exact wi64 (by omega) (by omega) | exact wu32 (by omega) (by omega) | exact wu32' _ | exact wu8 (by omega) (by omega) | exact wu64 (by omega) (by omega) | exact wi32 (by omega) (by omega) | rfl)) | ((with_reducible first | apply Vl.mk (α := Bool) | apply Vl.mk (α := Nat) | apply Vl.mk (α := ByteArray) | apply Ge.mk (α := Row) | apply Ge.mk (α := SV) | apply Ge.mk (α := AV)); · exact rfl) | (refine And.intro rfl ?_) | ((with_reducible first | apply Vl.mk (α := List SV) | apply Vl.mk (α := Ef) | apply Vl.mk (α := TV) | apply Ge.mk (α := List SV) | apply Sg.mk | apply Sk.mk); · (first | exact setAll_eq rfl | exact sg_all _ rfl | exact sk_all _ rfl rfl | ((first | apply sg_fc | apply sk_fc | (apply fc_eq; (conv => arg 1; whnf); apply fc_some) | apply fc_eq); (repeat' (first | exact fc_ren (wsv_scal _) | exact fc_ren (by assumption) | ((conv => arg 1; whnf); first | exact fc_nil | apply fc_cons | exact fc_int | exact fc_bool | exact fc_n | exact fc_ns | exact fc_ptr | exact fc_sl | exact fc_str | exact fc_unk | exact fc_fn | apply fc_s | apply fc_agg | apply fc_ta | apply fc_tup | exact fc_an | apply fc_ac | exact fc_tu | exact fc_nat | exact fc_bo | exact fc_none | apply fc_some | apply fc_pair | apply fc_row | apply fc_ef))); (all_goals exact rfl)) | ((dsimp only [Res.ef, renT, renA, renS, renN, nwN, upN, renRow, List.map_cons, List.map_nil, List.length_cons, List.length_nil]); first | done | exact rfl) | (dsimp only [setAll, List.set_cons_zero, List.set_cons_succ, List.cons_append, List.nil_append]; exact rfl) | exact rfl)) | ((first | apply Br.mk | apply Gd.mk) <;> (intro hb; first | (exact absurd hb (by decide)) | exact Bool.noConfusion (hb.symm.trans (by assumption) : true = false) | exact Bool.noConfusion (hb.symm.trans (by assumption) : false = true) | (simp only [decide_eq_true_eq, decide_eq_false_iff_not, beq_iff_eq, bne_iff_ne, beq_eq_false_iff_ne, bne_eq_false_iff_eq, Bool.not_eq_true', Bool.not_eq_false', Int.not_lt, Int.not_le, ge_iff_le, gt_iff_lt, ne_eq, Classical.not_not] at hb; first | (exfalso; omega) | skip) | skip)))); (all_goals (try (conv => whnf)))
        all_goals first
          | (refine ⟨mm - 1, cdst n LL (i + 1) RM, by omega, ?_, i + 1, by omega, by rw [hR2d, hRM]; rfl⟩
             apply wk_of (m := [(0, some 0), (1, some _)])
             · repeat' (first | exact tml_nil | apply tml_cons)
               all_goals first | exact tvm_a (avm_s (svm_same rfl)) | exact tvm_a (avm_s (svm_sl rfl))
             · show HlS _ _ [] _
               refine hls_row (rowmt_mk rfl rfl rfl rfl (svsm_scal hsc)) ?_
               refine hls_row (rowmt_mk rfl rfl rfl rfl (svsm_scal hRs)) ?_
               exact hls_nil
             · rfl)
          | trace_state
    · have hiN : i = n := by omega
      subst hiN
      rw [← hn, List.take_length]
      have hRs := wsv_scal (codeL ls)
      generalize wsv (codeL ls) = RR at *
      generalize isv .i64 ls = LL at *
      (repeat' ((conv => whnf); first | (with_reducible apply sd_draw; · kernel_rfl) | (apply Sd.mk; · first | exact rfl | trivial | omega | (repeat' apply And.intro) <;> first | exact rfl | exact Nat.le_of_ble_eq_true rfl | omega | decide) | ((with_reducible apply Vl.mk (α := Int)); · (first | (with_reducible exact bits_keep _ _ _ _) | ((rewrite [tdiv_pos]); (focus (first | exact wi64 (by omega) (by omega) | exact wu32 (by omega) (by omega) | exact wi32 (by omega) (by omega))); omega) | exact tmod_pos (by omega) | exact wi64 (by omega) (by omega) | exact wu32 (by omega) (by omega) | exact wu32' _ | exact wu8 (by omega) (by omega) | exact wu64 (by omega) (by omega) | exact wi32 (by omega) (by omega) | rfl)) | ((with_reducible first | apply Vl.mk (α := Bool) | apply Vl.mk (α := Nat) | apply Vl.mk (α := ByteArray) | apply Ge.mk (α := Row) | apply Ge.mk (α := SV) | apply Ge.mk (α := AV)); · exact rfl) | (refine And.intro rfl ?_) | ((with_reducible first | apply Vl.mk (α := List SV) | apply Vl.mk (α := Ef) | apply Vl.mk (α := TV) | apply Ge.mk (α := List SV) | apply Sg.mk | apply Sk.mk); · (first | exact setAll_eq rfl | exact sg_all _ rfl | exact sk_all _ rfl rfl | ((first | apply sg_fc | apply sk_fc | (apply fc_eq; (conv => arg 1; whnf); apply fc_some) | apply fc_eq); (repeat' (first | exact fc_ren (wsv_scal _) | exact fc_ren (by assumption) | ((conv => arg 1; whnf); first | exact fc_nil | apply fc_cons | exact fc_int | exact fc_bool | exact fc_n | exact fc_ns | exact fc_ptr | exact fc_sl | exact fc_str | exact fc_unk | exact fc_fn | apply fc_s | apply fc_agg | apply fc_ta | apply fc_tup | exact fc_an | apply fc_ac | exact fc_tu | exact fc_nat | exact fc_bo | exact fc_none | apply fc_some | apply fc_pair | apply fc_row | apply fc_ef))); (all_goals exact rfl)) | ((dsimp only [Res.ef, renT, renA, renS, renN, nwN, upN, renRow, List.map_cons, List.map_nil, List.length_cons, List.length_nil]); first | done | exact rfl) | (dsimp only [setAll, List.set_cons_zero, List.set_cons_succ, List.cons_append, List.nil_append]; exact rfl) | exact rfl)) | ((first | apply Br.mk | apply Gd.mk) <;> (intro hb; first | (exact absurd hb (by decide)) | exact Bool.noConfusion (hb.symm.trans (by assumption) : true = false) | exact Bool.noConfusion (hb.symm.trans (by assumption) : false = true) | (simp only [decide_eq_true_eq, decide_eq_false_iff_not, beq_iff_eq, bne_iff_ne, beq_eq_false_iff_ne, bne_eq_false_iff_eq, Bool.not_eq_true', Bool.not_eq_false', Int.not_lt, Int.not_le, ge_iff_le, gt_iff_lt, ne_eq, Classical.not_not] at hb; first | (exfalso; omega) | skip) | skip)))); (all_goals (try (conv => whnf)))
      all_goals first | (apply Fin.mk (m := [(0, some 0), (1, some 1)]); (focus exact rfl); (all_goals ((try (show HlS _ _ [] _)); first | ((repeat' (first | exact SVsM.nil | exact avsm_nil | exact svm_same rfl | exact svm_ptr rfl | exact svm_sl rfl | exact svm_slnil rfl | exact svsm_scal rfl | exact svsm_scal (wsv_scal _) | exact svsm_scal (by assumption) | exact hls_nil | apply SVsM.cons | apply tvm_a | apply tvm_tup | apply avm_agg | apply avm_s | apply avsm_cons | exact trivial | (refine hls_skip rfl ?_) | apply hls_none | apply hls_row | (refine rowmt_mk rfl rfl rfl rfl ?_) | exact rowmt_nil rfl rfl)); done) | exact rfl))) | trace_state
end Go.Proofs.Ytppjiheebpabjaa
