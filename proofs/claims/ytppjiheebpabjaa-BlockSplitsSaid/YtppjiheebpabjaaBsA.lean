/- BlockSplits. Printed by mkbs.py. -/
import Derived.Test.YtppjiheebpabjaaBmA
namespace Go.Proofs.Ytppjiheebpabjaa
open Go Go.RowKit
set_option linter.unusedSimpArgs false
set_option linter.unusedVariables false

theorem bl_take (xs : List Nat) : ∀ (g f q : Nat), g ≤ f → bl xs g q = (bl xs f q).take g
  | 0, f, q, _ => by rw [List.take_zero]; rfl
  | g + 1, f, q, h => by
    obtain ⟨f, rfl⟩ : ∃ f', f = f' + 1 := ⟨f - 1, by omega⟩
    have ih := bl_take xs g f (q + 1) (by omega)
    unfold bl
    split
    · split
      · rw [List.take_succ_cons, List.take_nil]
      · rw [List.take_succ_cons, ih]
    · rfl
theorem bl_drop (xs : List Nat) : ∀ (k f q : Nat), k < (bl xs f q).length → (bl xs f q).drop k = bl xs (f - k) (q + k)
  | 0, f, q, _ => rfl
  | k + 1, 0, q, h => by simp [bl] at h
  | k + 1, f + 1, q, h => by
    have e : bl xs (f + 1) q = if dOk (xs.getD q 0) = true then (if endsB (dOp (xs.getD q 0)) = true then [bM (xs.getD q 0)] else bM (xs.getD q 0) :: bl xs f (q + 1)) else [] := rfl
    rw [e] at h ⊢
    by_cases hd : dOk (xs.getD q 0) = true
    · rw [if_pos hd] at h ⊢
      by_cases he : endsB (dOp (xs.getD q 0)) = true
      · rw [if_pos he] at h; simp at h
      · rw [if_neg he] at h ⊢
        rw [List.drop_succ_cons, bl_drop xs k f (q + 1) (by simpa using h), show f + 1 - (k + 1) = f - k by omega, show q + 1 + k = q + (k + 1) by omega]
    · rw [if_neg hd] at h; simp at h
/-- A block that is cut short goes on behind the cut. -/
theorem bl_split (xs : List Nat) (n a K k : Nat) (hn : n = 64) (ha : a % 4 = 0 ∧ a < 256) (hK : (blL xs n a 16).length = K) (hk : 1 ≤ k ∧ k < K) :
    blA n a 16 = a ∧ blA n a k = a ∧ blL xs n a k = (blL xs n a 16).take k ∧ blA n (a + 4 * k) ((K : Int) - k) = a + 4 * k ∧ blL xs n (a + 4 * k) ((K : Int) - k) = (blL xs n a 16).drop k := by
  subst hn
  have h0 : bok 64 a 16 = true := by
    cases h : bok 64 a 16 with
    | true => rfl
    | false => unfold blL at hK; rw [h] at hK; simp at hK; omega
  have hm : mpg 64 = 2 := by decide
  have hld : ∀ b : Nat, b % 4 = 0 → b < 256 → ld4 64 b = true := fun b h1 h2 => by unfold ld4; rw [hm, decide_eq_true h1, decide_eq_true (by omega)]; rfl
  have hl16 : lmt a 16 ≤ 16 ∧ (lmt a 16 : Int) ≤ 32 - (a : Int) % 128 / 4 := by unfold lmt; omega
  have e16 : blL xs 64 a 16 = bl xs (lmt a 16) (a / 4) := by unfold blL; rw [h0]; rfl
  rw [e16] at hK ⊢
  have hKl := bl_len xs (lmt a 16) (a / 4)
  have h1 : bok 64 a k = true := by unfold bok; rw [decide_eq_true (by omega), hld a ha.1 ha.2]; rfl
  have h2 : bok 64 (a + 4 * k) ((K : Int) - k) = true := by unfold bok; rw [decide_eq_true (by omega), hld (a + 4 * k) (by omega) (by omega)]; rfl
  have l1 : lmt a k = k := by unfold lmt; omega
  have l2 : lmt (a + 4 * k) ((K : Int) - k) = K - k := by unfold lmt; omega
  refine ⟨by unfold blA; rw [h0]; rfl, by unfold blA; rw [h1]; rfl, ?_, by unfold blA; rw [h2]; rfl, ?_⟩
  · unfold blL
    rw [h1, if_pos rfl, l1]
    exact bl_take xs k (lmt a 16) (a / 4) (by omega)
  · unfold blL
    rw [h2, if_pos rfl, l2, show (a + 4 * k) / 4 = a / 4 + k by omega, bl_drop xs k (lmt a 16) (a / 4) (by omega), bl_take xs (K - k) (lmt a 16 - k) (a / 4 + k) (by omega)]
    have hdl : (bl xs (lmt a 16 - k) (a / 4 + k)).length = K - k := by rw [← bl_drop xs k (lmt a 16) (a / 4) (by omega), List.length_drop, hK]
    rw [List.take_of_length_le (by omega)]
theorem mcs_len2 (l : List Mi) : (mcs l).length = l.length * 6 := mcs_len l
set_option maxHeartbeats 2000000 in
set_option maxRecDepth 100000 in
theorem splits_short (ls : List Int) (n : Nat) (hn : ls.length = n) (hr : n * 8 ≤ 140737488351232) (a : Nat) (cut : Int) (ha : a < 4294967296) (hK : (blL (cpM 64 (codeL ls)) 64 (a % 256 / 4 * 4) 16).length < 2) :
    Fn Try.prog 4 [.s (.sl 0 0 n), .s (.int .u32 a), .s (.int .i64 cut)] [⟨false, 1, isv .i64 ls⟩] (· = ⟨.a (.s (.bool true)), [], []⟩) := by
  have hcode := code_fn ls n hn hr
  have hyl : (codeL ls).length = n := by rw [codeL_len, hn]
  have hx := cpM_len 64 (codeL ls)
  have hxr := cpM_lt 64 (codeL ls) (codeL_lt ls)
  have hset := cpM_set 64 (codeL ls)
  have hsk := sk_take (codeL ls) n hyl
  have hsy := wsv_scal (codeL ls)
  have hsm := wsv_scal (cpM 64 (codeL ls))
  have hsc := isv_scal .i64 ls
  generalize cpM 64 (codeL ls) = M at *
  have q1 : IntKind.u32.wrap ((a : Int) % 256 / 4 * 4) = ((a % 256 / 4 * 4 : Nat) : Int) := by rw [wu32 (by omega) (by omega)]; omega
  have ha4 : a % 256 / 4 * 4 % 4 = 0 ∧ a % 256 / 4 * 4 < 256 := by omega
  generalize a % 256 / 4 * 4 = a2 at *
  have hAl : blA 64 a2 16 < 4294967296 := by unfold blA; split <;> omega
  obtain ⟨K, hKd⟩ : ∃ K, (blL M 64 a2 16).length = K := ⟨_, rfl⟩
  rw [hKd] at hK
  have cb := buildA_fn M 64 a2 16 hx (by omega) (by omega) hxr K hKd
  have hfa := blL_facts M 64 a2 16 hxr
  have crb := rbuildA_fn M 64 a2 16 hx (by omega) (by omega) hxr K hKd
  generalize blL M 64 a2 16 = l at *
  generalize blA 64 a2 16 = B at *
  have cs := sameblk_fn B K (l.map Mi.z) K (by rw [List.length_map]; exact hKd) (by omega)
  rw [mzs_mcs] at cs
  have hsl := mcs_scal l
  generalize mcs l = LM at *
  generalize wsv M = MM at *
  generalize hYT : wsv ((codeL ls).take 64) = YT at *
  generalize wsv (codeL ls) = YY at *
  generalize hLL : isv .i64 ls = LL at *
  refine fn_of_vc mixed tys_ok _ _ Try.func4 (by kernel_rfl) rfl Try.ntmps4 (by rw [Try.results4]) rfl ?_; dsimp only [argTm, argHl, Nat.zero_add, Nat.reduceAdd, List.length_nil, List.length_cons]
  (repeat' ((conv => whnf); first | ((with_reducible apply Vl.mk (α := Int)); · with_reducible exact q1)  |  ((first | apply Br.mk | apply Gd.mk) <;> (intro hb; first | (exact absurd hb (by decide)) | exact Bool.noConfusion (hb.symm.trans (by assumption) : true = false) | exact Bool.noConfusion (hb.symm.trans (by assumption) : false = true) | (exfalso; revert hb; simp only [beq_self_eq_true, Bool.and_true, Bool.and_self, reduceCtorEq, false_implies, bne_self_eq_false, imp_false, not_true_eq_false, not_false_eq_true, Bool.true_eq_false, Bool.false_eq_true]; done) | (simp only [decide_eq_true_eq, decide_eq_false_iff_not, beq_iff_eq, bne_iff_ne, beq_eq_false_iff_ne, bne_eq_false_iff_eq, Bool.not_eq_true', Bool.not_eq_false', Int.not_lt, Int.not_le, ge_iff_le, gt_iff_lt, ne_eq, Classical.not_not] at hb; first | (exfalso; omega) | skip) | skip))  |  (refine Eqs.mk _ (eqt_ok _ _ rfl _ _ _ rfl) ?_)  |  (refine vcall_pure (f := 16) (awake15_fn) rfl ?_)  |  (refine vcall_det (f := 8) new2_fn [] [] rfl trivial trivial ⟨rfl, noUp⟩ ?_)  |  (refine vcall_det (f := 17) hcode [⟨_, 0⟩] [(_, ⟨false, 1, LL⟩)] rfl ⟨rfl, trivial⟩ ⟨rfl, rowM_ro hsc, trivial⟩ ⟨rfl, noUp⟩ ?_)  |  (apply Sk.mk; · first | exact hsk)  |  (apply Sd.mk; · first | (refine ⟨rfl, ?_⟩; show 0 + YT.length ≤ (wsv (zer 64)).length; rw [hsk.1]; show 0 + min n 64 * 1 ≤ 64; omega))  |  ((with_reducible apply Vl.mk (α := List SV)); · first | exact hset)  |  (refine vcall_det (f := 12) cb [⟨_, 0⟩] [(_, ⟨true, 1, MM⟩)] rfl ⟨rfl, trivial⟩ ⟨rfl, rowM_ro hsm, trivial⟩ ⟨rfl, noUp⟩ ?_)  |  (refine vcall_det (f := 19) crb [⟨_, 0⟩] [(_, ⟨true, 1, MM⟩)] rfl ⟨rfl, trivial⟩ ⟨rfl, rowM_ro hsm, trivial⟩ ⟨rfl, noUp⟩ ?_)  |  (refine vcall_det (f := 18) cs [⟨_, 0⟩, ⟨_, 0⟩] [(_, ⟨true, 6, LM⟩), (_, ⟨true, 6, LM⟩)] rfl ⟨rfl, rfl, trivial⟩ ⟨rfl, rowM_ro hsl, rfl, rowM_ro hsl, trivial⟩ ⟨rfl, noUp⟩ ?_) | (with_reducible apply sd_draw; · kernel_rfl) | (apply Sd.mk; · first | exact rfl | trivial | omega | (repeat' apply And.intro) <;> first | exact rfl | exact Nat.le_of_ble_eq_true rfl | omega | decide) | ((with_reducible apply Vl.mk (α := Int)); · (first | (with_reducible exact bits_keep _ _ _ _) | ((rewrite [tdiv_pos]); (focus (first | exact wi64 (by omega) (by omega) | exact wu32 (by omega) (by omega) | exact wi32 (by omega) (by omega))); omega) | exact tmod_pos (by omega) | exact wi64 (by omega) (by omega) | exact wu32 (by omega) (by omega) | exact wu32' _ | exact wu8 (by omega) (by omega) | exact wu64 (by omega) (by omega) | exact wi32 (by omega) (by omega) | rfl)) | ((with_reducible first | apply Vl.mk (α := Bool) | apply Vl.mk (α := Nat) | apply Vl.mk (α := ByteArray) | apply Ge.mk (α := Row) | apply Ge.mk (α := SV) | apply Ge.mk (α := AV)); · exact rfl) | (refine And.intro rfl ?_) | ((with_reducible first | apply Vl.mk (α := List SV) | apply Vl.mk (α := Ef) | apply Vl.mk (α := TV) | apply Ge.mk (α := List SV) | apply Sg.mk | apply Sk.mk); · (first | exact setAll_eq rfl | exact sg_all _ rfl | exact sk_all _ rfl rfl | ((first | apply sg_fc | apply sk_fc | (apply fc_eq; (conv => arg 1; whnf); apply fc_some) | apply fc_eq); (repeat' (first | exact fc_ren (wsv_scal _) | exact fc_ren (by assumption) | ((conv => arg 1; whnf); first | exact fc_nil | apply fc_cons | exact fc_int | exact fc_bool | exact fc_n | exact fc_ns | exact fc_ptr | exact fc_sl | exact fc_str | exact fc_unk | exact fc_fn | apply fc_s | apply fc_agg | apply fc_ta | apply fc_tup | exact fc_an | apply fc_ac | exact fc_tu | exact fc_nat | exact fc_bo | exact fc_none | apply fc_some | apply fc_pair | apply fc_row | apply fc_ef))); (all_goals exact rfl)) | ((dsimp only [Res.ef, renT, renA, renS, renN, nwN, upN, renRow, List.map_cons, List.map_nil, List.length_cons, List.length_nil]); first | done | exact rfl) | (dsimp only [setAll, List.set_cons_zero, List.set_cons_succ, List.cons_append, List.nil_append]; exact rfl) | exact rfl)) | ((first | apply Br.mk | apply Gd.mk) <;> (intro hb; first | (exact absurd hb (by decide)) | exact Bool.noConfusion (hb.symm.trans (by assumption) : true = false) | exact Bool.noConfusion (hb.symm.trans (by assumption) : false = true) | (simp only [decide_eq_true_eq, decide_eq_false_iff_not, beq_iff_eq, bne_iff_ne, beq_eq_false_iff_ne, bne_eq_false_iff_eq, Bool.not_eq_true', Bool.not_eq_false', Int.not_lt, Int.not_le, ge_iff_le, gt_iff_lt, ne_eq, Classical.not_not] at hb; first | (exfalso; omega) | skip) | skip)))); (all_goals (try (conv => whnf)))
  all_goals first | (apply Fin.mk (m := [(0, some 0)]); (focus exact rfl); (all_goals ((try (show HlS _ _ [] _)); first | ((repeat' (first | exact SVsM.nil | exact avsm_nil | exact svm_same rfl | exact svm_ptr rfl | exact svm_sl rfl | exact svm_slnil rfl | exact svsm_scal rfl | exact svsm_scal (wsv_scal _) | exact svsm_scal (by assumption) | exact hls_nil | apply SVsM.cons | apply tvm_a | apply tvm_tup | apply avm_agg | apply avm_s | apply avsm_cons | exact trivial | (refine hls_skip rfl ?_) | apply hls_none | apply hls_row | (refine rowmt_mk rfl rfl rfl rfl ?_) | exact rowmt_nil rfl rfl)); done) | exact rfl))) | trace_state
set_option maxHeartbeats 2000000 in
set_option maxRecDepth 100000 in
theorem splits_long (ls : List Int) (n : Nat) (hn : ls.length = n) (hr : n * 8 ≤ 140737488351232) (a : Nat) (cut : Int) (ha : a < 4294967296) (hK : 2 ≤ (blL (cpM 64 (codeL ls)) 64 (a % 256 / 4 * 4) 16).length) :
    Fn Try.prog 4 [.s (.sl 0 0 n), .s (.int .u32 a), .s (.int .i64 cut)] [⟨false, 1, isv .i64 ls⟩] (· = ⟨.a (.s (.bool true)), [], []⟩) := by
  have hcode := code_fn ls n hn hr
  have hyl : (codeL ls).length = n := by rw [codeL_len, hn]
  have hx := cpM_len 64 (codeL ls)
  have hxr := cpM_lt 64 (codeL ls) (codeL_lt ls)
  have hset := cpM_set 64 (codeL ls)
  have hsk := sk_take (codeL ls) n hyl
  have hsy := wsv_scal (codeL ls)
  have hsm := wsv_scal (cpM 64 (codeL ls))
  have hsc := isv_scal .i64 ls
  generalize cpM 64 (codeL ls) = M at *
  have q1 : IntKind.u32.wrap ((a : Int) % 256 / 4 * 4) = ((a % 256 / 4 * 4 : Nat) : Int) := by rw [wu32 (by omega) (by omega)]; omega
  have ha4 : a % 256 / 4 * 4 % 4 = 0 ∧ a % 256 / 4 * 4 < 256 := by omega
  generalize a % 256 / 4 * 4 = a2 at *
  have hAl : blA 64 a2 16 < 4294967296 := by unfold blA; split <;> omega
  obtain ⟨K, hKd⟩ : ∃ K, (blL M 64 a2 16).length = K := ⟨_, rfl⟩
  rw [hKd] at hK
  have cb := buildA_fn M 64 a2 16 hx (by omega) (by omega) hxr K hKd
  have hfa := blL_facts M 64 a2 16 hxr
  obtain ⟨k, hkd⟩ : ∃ k : Nat, 1 + cut % ((K : Int) - 1) = (k : Int) := ⟨(1 + cut % ((K : Int) - 1)).toNat, by
    have := Int.emod_nonneg cut (show (K : Int) - 1 ≠ 0 by omega)
    omega⟩
  have hk : 1 ≤ k ∧ k < K := by
    have h1 := Int.emod_nonneg cut (show (K : Int) - 1 ≠ 0 by omega)
    have h2 := Int.emod_lt_of_pos cut (show 0 < (K : Int) - 1 by omega)
    omega
  have hK16 : K ≤ 16 := by rw [← hKd]; exact hfa.1
  obtain ⟨s1, s2, s3, s4, s5⟩ := bl_split M 64 a2 K k rfl ha4 hKd hk
  have crn := rnd_fn cut ((K : Int) - 1) (by omega) (by omega)
  have q2 : IntKind.i64.wrap ((K : Int) - 1) = (K : Int) - 1 := wi64 (by omega) (by omega)
  have q3 : IntKind.i64.wrap (1 + cut % ((K : Int) - 1)) = (k : Int) := by rw [hkd, wi64 (by omega) (by omega)]
  have q4 : IntKind.i64.wrap (4 * (k : Int)) = ((4 * k : Nat) : Int) := by rw [wi64 (by omega) (by omega)]; omega
  have q5 : IntKind.u32.wrap ((4 * k : Nat) : Int) = ((4 * k : Nat) : Int) := by rw [wu32 (by omega) (by omega)]
  have q6 : IntKind.u32.wrap ((a2 : Int) + ((4 * k : Nat) : Int)) = ((a2 + 4 * k : Nat) : Int) := by rw [wu32 (by omega) (by omega)]; omega
  have q7 : IntKind.i64.wrap ((K : Int) - (k : Int)) = (K : Int) - k := wi64 (by omega) (by omega)
  have cx := buildA_fn M 64 a2 k hx (by omega) (by omega) hxr k (by rw [s3, List.length_take, hKd]; omega)
  have cy := buildA_fn M 64 (a2 + 4 * k) ((K : Int) - k) hx (by omega) (by omega) hxr (K - k) (by rw [s5, List.length_drop, hKd])
  rw [s2, s3] at cx
  rw [s4, s5, show ((K - k : Nat) : Int) = (K : Int) - k by omega] at cy
  rw [s1] at cb
  generalize cut % ((K : Int) - 1) = cutr at *
  clear s1 s2 s3 s4 s5 hfa hAl
  generalize blL M 64 a2 16 = l at *
  have cs := sameblk_fn a2 K (l.map Mi.z) K (by rw [List.length_map]; exact hKd) (by omega)
  rw [mzs_mcs] at cs
  have hsl := mcs_scal l
  have hsx := mcs_scal (l.take k)
  have hsz := mcs_scal (l.drop k)
  have hkx := mcs_known (l.take k)
  have hky := mcs_known (l.drop k)
  have hlx : (mcs (l.take k)).length = k * 6 := by rw [mcs_len, List.length_take, hKd]; congr 1; omega
  have hly : (mcs (l.drop k)).length = (K - k) * 6 := by rw [mcs_len, List.length_drop, hKd]
  have hap : mcs (l.take k) ++ mcs (l.drop k) = mcs l := by rw [← mcs_app, List.take_append_drop]
  have x1 : k + (K - k) = K := by omega
  generalize mcs (l.take k) = LX at *
  generalize mcs (l.drop k) = LY at *
  generalize mcs l = LM at *
  generalize wsv M = MM at *
  generalize hYT : wsv ((codeL ls).take 64) = YT at *
  generalize wsv (codeL ls) = YY at *
  generalize hLL : isv .i64 ls = LL at *
  refine fn_of_vc mixed tys_ok _ _ Try.func4 (by kernel_rfl) rfl Try.ntmps4 (by rw [Try.results4]) rfl ?_; dsimp only [argTm, argHl, Nat.zero_add, Nat.reduceAdd, List.length_nil, List.length_cons]
  (repeat' ((conv => whnf); first | ((with_reducible apply Vl.mk (α := Int)); · with_reducible first | exact q1 | exact q2 | exact q3 | exact q4 | exact q5 | exact q6 | exact q7)  |  ((first | apply Br.mk | apply Gd.mk) <;> (intro hb; first | (exact absurd hb (by decide)) | exact Bool.noConfusion (hb.symm.trans (by assumption) : true = false) | exact Bool.noConfusion (hb.symm.trans (by assumption) : false = true) | (exfalso; revert hb; simp only [beq_self_eq_true, Bool.and_true, Bool.and_self, reduceCtorEq, false_implies, bne_self_eq_false, imp_false, not_true_eq_false, not_false_eq_true, Bool.true_eq_false, Bool.false_eq_true]; done) | (simp only [decide_eq_true_eq, decide_eq_false_iff_not, beq_iff_eq, bne_iff_ne, beq_eq_false_iff_ne, bne_eq_false_iff_eq, Bool.not_eq_true', Bool.not_eq_false', Int.not_lt, Int.not_le, ge_iff_le, gt_iff_lt, ne_eq, Classical.not_not] at hb; first | (exfalso; omega) | skip) | skip))  |  (refine Eqs.mk _ (eqt_ok _ _ rfl _ _ _ rfl) ?_)  |  (refine vcall_pure (f := 16) (awake15_fn) rfl ?_)  |  (refine vcall_det (f := 8) new2_fn [] [] rfl trivial trivial ⟨rfl, noUp⟩ ?_)  |  (refine vcall_det (f := 17) hcode [⟨_, 0⟩] [(_, ⟨false, 1, LL⟩)] rfl ⟨rfl, trivial⟩ ⟨rfl, rowM_ro hsc, trivial⟩ ⟨rfl, noUp⟩ ?_)  |  (refine vcall_pure (f := 7) (crn) rfl ?_)  |  (apply Sk.mk; · first | exact hsk | exact sk_all LX (by show LX.length = k * 6; omega) hkx | exact sk_all LY (by show LY.length = (K - k) * 6; omega) hky)  |  (apply Sd.mk; · first | (refine ⟨rfl, ?_⟩; show 0 + YT.length ≤ (wsv (zer 64)).length; rw [hsk.1]; show 0 + min n 64 * 1 ≤ 64; omega) | (refine ⟨rfl, rfl, ?_, ?_, ?_⟩; (focus first | (show LX.length = k * 6; omega) | rfl); (focus first | (show (0 + k) * 48 ≤ _; omega) | (show (k + (K - k)) * 48 ≤ _; omega)); (focus omega)))  |  ((with_reducible apply Vl.mk (α := Nat)); · with_reducible first | exact x1 | exact Nat.zero_add k)  |  ((with_reducible apply Vl.mk (α := List SV)); · first | with_reducible exact hap | with_reducible exact List.nil_append LX | exact hset)  |  (refine vcall_det (f := 12) cb [⟨_, 0⟩] [(_, ⟨true, 1, MM⟩)] rfl ⟨rfl, trivial⟩ ⟨rfl, rowM_ro hsm, trivial⟩ ⟨rfl, noUp⟩ ?_)  |  (refine vcall_det (f := 12) cx [⟨_, 0⟩] [(_, ⟨true, 1, MM⟩)] rfl ⟨rfl, trivial⟩ ⟨rfl, rowM_ro hsm, trivial⟩ ⟨rfl, noUp⟩ ?_)  |  (refine vcall_det (f := 12) cy [⟨_, 0⟩] [(_, ⟨true, 1, MM⟩)] rfl ⟨rfl, trivial⟩ ⟨rfl, rowM_ro hsm, trivial⟩ ⟨rfl, noUp⟩ ?_)  |  (refine vcall_det (f := 18) cs [⟨_, 0⟩, ⟨_, 0⟩] [(_, ⟨true, 6, LM⟩), (_, ⟨true, 6, LM⟩)] rfl ⟨rfl, rfl, trivial⟩ ⟨rfl, rowM_ro hsl, rfl, rowM_ro hsl, trivial⟩ ⟨rfl, noUp⟩ ?_) | (with_reducible apply sd_draw; · kernel_rfl) | (apply Sd.mk; · first | exact rfl | trivial | omega | (repeat' apply And.intro) <;> first | exact rfl | exact Nat.le_of_ble_eq_true rfl | omega | decide) | ((with_reducible apply Vl.mk (α := Int)); · (first | (with_reducible exact bits_keep _ _ _ _) | ((rewrite [tdiv_pos]); (focus (first | exact wi64 (by omega) (by omega) | exact wu32 (by omega) (by omega) | exact wi32 (by omega) (by omega))); omega) | exact tmod_pos (by omega) | exact wi64 (by omega) (by omega) | exact wu32 (by omega) (by omega) | exact wu32' _ | exact wu8 (by omega) (by omega) | exact wu64 (by omega) (by omega) | exact wi32 (by omega) (by omega) | rfl)) | ((with_reducible first | apply Vl.mk (α := Bool) | apply Vl.mk (α := Nat) | apply Vl.mk (α := ByteArray) | apply Ge.mk (α := Row) | apply Ge.mk (α := SV) | apply Ge.mk (α := AV)); · exact rfl) | (refine And.intro rfl ?_) | ((with_reducible first | apply Vl.mk (α := List SV) | apply Vl.mk (α := Ef) | apply Vl.mk (α := TV) | apply Ge.mk (α := List SV) | apply Sg.mk | apply Sk.mk); · (first | exact setAll_eq rfl | exact sg_all _ rfl | exact sk_all _ rfl rfl | ((first | apply sg_fc | apply sk_fc | (apply fc_eq; (conv => arg 1; whnf); apply fc_some) | apply fc_eq); (repeat' (first | exact fc_ren (wsv_scal _) | exact fc_ren (by assumption) | ((conv => arg 1; whnf); first | exact fc_nil | apply fc_cons | exact fc_int | exact fc_bool | exact fc_n | exact fc_ns | exact fc_ptr | exact fc_sl | exact fc_str | exact fc_unk | exact fc_fn | apply fc_s | apply fc_agg | apply fc_ta | apply fc_tup | exact fc_an | apply fc_ac | exact fc_tu | exact fc_nat | exact fc_bo | exact fc_none | apply fc_some | apply fc_pair | apply fc_row | apply fc_ef))); (all_goals exact rfl)) | ((dsimp only [Res.ef, renT, renA, renS, renN, nwN, upN, renRow, List.map_cons, List.map_nil, List.length_cons, List.length_nil]); first | done | exact rfl) | (dsimp only [setAll, List.set_cons_zero, List.set_cons_succ, List.cons_append, List.nil_append]; exact rfl) | exact rfl)) | ((first | apply Br.mk | apply Gd.mk) <;> (intro hb; first | (exact absurd hb (by decide)) | exact Bool.noConfusion (hb.symm.trans (by assumption) : true = false) | exact Bool.noConfusion (hb.symm.trans (by assumption) : false = true) | (simp only [decide_eq_true_eq, decide_eq_false_iff_not, beq_iff_eq, bne_iff_ne, beq_eq_false_iff_ne, bne_eq_false_iff_eq, Bool.not_eq_true', Bool.not_eq_false', Int.not_lt, Int.not_le, ge_iff_le, gt_iff_lt, ne_eq, Classical.not_not] at hb; first | (exfalso; omega) | skip) | skip)))); (all_goals (try (conv => whnf)))
  all_goals first | (apply Fin.mk (m := [(0, some 0)]); (focus exact rfl); (all_goals ((try (show HlS _ _ [] _)); first | ((repeat' (first | exact SVsM.nil | exact avsm_nil | exact svm_same rfl | exact svm_ptr rfl | exact svm_sl rfl | exact svm_slnil rfl | exact svsm_scal rfl | exact svsm_scal (wsv_scal _) | exact svsm_scal (by assumption) | exact hls_nil | apply SVsM.cons | apply tvm_a | apply tvm_tup | apply avm_agg | apply avm_s | apply avsm_cons | exact trivial | (refine hls_skip rfl ?_) | apply hls_none | apply hls_row | (refine rowmt_mk rfl rfl rfl rfl ?_) | exact rowmt_nil rfl rfl)); done) | exact rfl))) | trace_state
theorem splits15_fn (ls : List Int) (n : Nat) (hn : ls.length = n) (hr : n * 8 ≤ 140737488351232) (a : Nat) (cut : Int) (ha : a < 4294967296) :
    Fn Try.prog 4 [.s (.sl 0 0 n), .s (.int .u32 a), .s (.int .i64 cut)] [⟨false, 1, isv .i64 ls⟩] (· = ⟨.a (.s (.bool true)), [], []⟩) := by
  by_cases h : (blL (cpM 64 (codeL ls)) 64 (a % 256 / 4 * 4) 16).length < 2
  · exact splits_short ls n hn hr a cut ha h
  · exact splits_long ls n hn hr a cut ha (by omega)
end Go.Proofs.Ytppjiheebpabjaa
