/- TlbTells, case by case. Printed by mktt.py. -/
import Derived.Test.YthgikkibfbkoiaaTlbM
namespace Go.Proofs.Ythgikkibfbkoiaa
open Go Go.RowKit
set_option linter.unusedSimpArgs false
set_option linter.unusedVariables false

theorem tes_set (l : List Te) (j : Nat) (m : Te) (hj : j < l.length) : setAll (tes l) (j * 4) m.C = tes (l.set j m) := by
  apply List.ext_getElem?
  intro i
  rw [setAll_get _ _ _ _ (by rw [tes_len]; show j * 4 + 4 ≤ _; omega)]
  have hlen : (m.C).length = 4 := rfl
  by_cases h : i / 4 < l.length
  · have e : i = i / 4 * 4 + i % 4 := by omega
    have hm : i % 4 < 4 := Nat.mod_lt _ (by omega)
    by_cases hij : i / 4 = j
    · rw [if_pos (by omega), e, tes_at (l.set j m) (i / 4) m (by rw [hij, List.getElem?_set_self hj]) _ hm]
      congr 1; omega
    · have hl := List.getElem?_eq_getElem h
      rw [if_neg (by omega), e, tes_at l (i / 4) _ hl _ hm, tes_at (l.set j m) (i / 4) _ (by rw [List.getElem?_set_ne (by omega)]; exact hl) _ hm]
  · rw [if_neg (by omega), List.getElem?_eq_none (by rw [tes_len]; omega), List.getElem?_eq_none (by rw [tes_len, List.length_set]; omega)]
theorem mem_setT {l : List Te} {a : Nat} {w y : Te} (h : y ∈ l.set a w) : y ∈ l ∨ y = w := List.mem_or_eq_of_mem_set h
set_option maxHeartbeats 4000000 in
set_option maxRecDepth 100000 in
theorem tells_raw (T : List Te) (N : Nat) (hN : T.length = N) (hN20 : N ≤ 20) (hT : TB T) (ls as_ : List Int) (nl na : Nat) (hl : ls.length = nl) (ha : as_.length = na) (hna : na ≤ 30) (pages : Int) (root va : Nat) (hroot : root < 4294967296) (hva : va < 4294967296) (ac at_ : Int) (x : Te) (hx : x.p < 4294967296 ∧ x.f < 4294967296) :
    Fn Try.prog 3 [.s (.sl 0 0 N), .s (.bool true), .s (.sl 1 0 nl), .s (.sl 2 0 na), .s (.int .i64 pages), .s (.int .u32 root), .s (.int .u32 va), .s (.int .i64 ac), .s (.int .i64 at_), .agg x.C] [⟨false, 4, tes T⟩, ⟨false, 1, isv .i64 ls⟩, ⟨false, 1, isv .i64 as_⟩] (· = ⟨.a (.s (.bool true)), [], []⟩) := by
  obtain ⟨xp, xf, xw, xx⟩ := x
  dsimp only [Te.C]
  obtain ⟨k, hk⟩ : ∃ k : Nat, pages % 8 = (k : Int) := ⟨(pages % 8).toNat, by omega⟩
  obtain ⟨n, hn⟩ : ∃ n, n = (1 + k) * 32 := ⟨_, rfl⟩
  obtain ⟨xs, hX, ct⟩ := tables_fn ls nl hl pages k hk n hn
  have hsl := isv_scal .i64 ls
  have hsa := isv_scal .i64 as_
  obtain ⟨r, hr'⟩ : ∃ r, r = root % 9 := ⟨_, rfl⟩
  have er : (root : Int).tmod 9 = (r : Int) := by rw [tmod_pos (by omega)]; omega
  have hr : r < 4294967296 := by omega
  obtain ⟨f, t', ok, hf, ht', hT', cl, cl2⟩ := look_both T N hN (by omega) hT (va / 128) ac
  have cf := tfill_fn T N hN (by omega) xs n r va ac hX (by omega) hr hva
  have cf2 := rfill_fn T N hN (by omega) xs n r va ac hX (by omega) hr hva
  have cs1 := sametlb_fn t' N ht' (by omega)
  have hfl : (fillT T xs n r va ac).length ≤ 20 := fillT_len2 (by omega)
  have cs2 := sametlb_fn (fillT T xs n r va ac) _ rfl (by omega)
  have cw := same_fn (fillX xs n r va ac) n (fillX_B hX).1 (by omega)
  have cc := coherent_fn T N hN (by omega) hT xs n r hX.1 (by omega) hX.2 hr
  have cc2 := rcoherent_fn T N hN (by omega) hT xs n r hX.1 (by omega) hX.2 hr
  obtain ⟨w1, w2, w3, hwk⟩ : ∃ (w1 w2 : Nat) (w3 : Int), wlkC xs n r va ac = [.int .u32 w1, .int .u32 w2, .int .i64 w3] := by
    unfold wlkC; split
    · exact ⟨_, _, _, rfl⟩
    · exact ⟨0, 0, _, rfl⟩
  rw [hwk] at cf cf2
  have s1 := tes_scal T
  have s2 := wsv_scal xs
  have s3 := tes_scal t'
  have s4 := tes_scal (fillT T xs n r va ac)
  have s5 := wsv_scal (fillX xs n r va ac)
  have e128 : IntKind.u32.wrap ((va : Int).tdiv 128) = ((va / 128 : Nat) : Int) := by rw [tdiv_pos (by omega), wu32 (by omega) (by omega)]; omega
  clear hwk hX hT hT'
  generalize cohB T xs n r = coh at *
  generalize tes (fillT T xs n r va ac) = A2 at *
  generalize wsv (fillX xs n r va ac) = X2 at *
  generalize (fillT T xs n r va ac).length = N2 at *
  generalize tes t' = A1 at *
  generalize wsv xs = X1 at *
  generalize tes T = T1 at *
  generalize isv .i64 ls = LL at *
  generalize isv .i64 as_ = AA at *
  refine fn_of_vc mixed tys_ok _ _ Try.func3 (by kernel_rfl) rfl Try.ntmps3 (by rw [Try.results3]) rfl ?_; dsimp only [argTm, argHl, Nat.zero_add, Nat.reduceAdd, List.length_nil, List.length_cons]
  (repeat' ((conv => whnf); first | ((first | apply Br.mk | apply Gd.mk) <;> (intro hb; first | (exact absurd hb (by decide)) | exact Bool.noConfusion (hb.symm.trans (by assumption) : true = false) | exact Bool.noConfusion (hb.symm.trans (by assumption) : false = true) | (exfalso; revert hb; simp; done) | (simp only [decide_eq_true_eq, decide_eq_false_iff_not, beq_iff_eq, bne_iff_ne, beq_eq_false_iff_ne, bne_eq_false_iff_eq, Bool.not_eq_true', Bool.not_eq_false', Int.not_lt, Int.not_le, ge_iff_le, gt_iff_lt, ne_eq, Classical.not_not] at hb; first | (exfalso; omega) | (exfalso; simp_all; done) | skip) | skip))  |  (refine Eqs.mk _ (eqt_ok _ _ rfl _ _ _ rfl) ?_)  |  ((with_reducible apply Vl.mk (α := Int)); · with_reducible first | exact er | exact e128)  |  (refine vcall_det (ct) [⟨_, 0⟩] [(_, _)] rfl ⟨rfl, trivial⟩ ⟨rfl, rowM_ro (by assumption), trivial⟩ ⟨rfl, up_ok rfl⟩ ?_)  |  (refine vcall_det (cl) [⟨_, 0⟩] [(_, _)] rfl ⟨rfl, trivial⟩ ⟨rfl, rowM_ro (by assumption), trivial⟩ ⟨rfl, up_ok rfl⟩ ?_)  |  (refine vcall_det (cl2) [⟨_, 0⟩] [(_, _)] rfl ⟨rfl, trivial⟩ ⟨rfl, rowM_ro (by assumption), trivial⟩ ⟨rfl, up_ok rfl⟩ ?_)  |  (refine vcall_det (cf) [⟨_, 0⟩, ⟨_, 0⟩] [(_, _), (_, _)] rfl ⟨rfl, rfl, trivial⟩ ⟨rfl, rowM_ro (by assumption), rfl, rowM_ro (by assumption), trivial⟩ ⟨rfl, up_ok rfl⟩ ?_)  |  (refine vcall_det (cf2) [⟨_, 0⟩, ⟨_, 0⟩] [(_, _), (_, _)] rfl ⟨rfl, rfl, trivial⟩ ⟨rfl, rowM_ro (by assumption), rfl, rowM_ro (by assumption), trivial⟩ ⟨rfl, up_ok rfl⟩ ?_)  |  (refine vcall_det (cs1) [⟨_, 0⟩, ⟨_, 0⟩] [(_, _), (_, _)] rfl ⟨rfl, rfl, trivial⟩ ⟨rfl, rowM_ro (by assumption), rfl, rowM_ro (by assumption), trivial⟩ ⟨rfl, up_ok rfl⟩ ?_)  |  (refine vcall_det (cs2) [⟨_, 0⟩, ⟨_, 0⟩] [(_, _), (_, _)] rfl ⟨rfl, rfl, trivial⟩ ⟨rfl, rowM_ro (by assumption), rfl, rowM_ro (by assumption), trivial⟩ ⟨rfl, up_ok rfl⟩ ?_)  |  (refine vcall_det (cw) [⟨_, 0⟩, ⟨_, 0⟩] [(_, _), (_, _)] rfl ⟨rfl, rfl, trivial⟩ ⟨rfl, rowM_ro (by assumption), rfl, rowM_ro (by assumption), trivial⟩ ⟨rfl, up_ok rfl⟩ ?_)  |  (refine vcall_det (cc) [⟨_, 0⟩, ⟨_, 0⟩] [(_, _), (_, _)] rfl ⟨rfl, rfl, trivial⟩ ⟨rfl, rowM_ro (by assumption), rfl, rowM_ro (by assumption), trivial⟩ ⟨rfl, up_ok rfl⟩ ?_)  |  (refine vcall_det (cc2) [⟨_, 0⟩, ⟨_, 0⟩] [(_, _), (_, _)] rfl ⟨rfl, rfl, trivial⟩ ⟨rfl, rowM_ro (by assumption), rfl, rowM_ro (by assumption), trivial⟩ ⟨rfl, up_ok rfl⟩ ?_)  |  (refine vcall_pure (f := 6) (awake14_fn) rfl ?_) | ((with_reducible apply Vl.mk (α := Nat)); · ((try simp only [tysz, tybz, Int.toNat_natCast, Int.toNat_zero, Int.toNat_one, Nat.zero_add, Nat.zero_mul, Nat.mul_one, Nat.one_mul, Nat.add_zero, Int.sub_zero, Option.getD_some, Option.getD_none, Int.toNat_natCast_add_one]); exact rfl)) | (with_reducible apply sd_draw; · kernel_rfl) | (apply Sd.mk; · first | exact rfl | trivial | omega | (repeat' apply And.intro) <;> first | exact rfl | exact Nat.le_of_ble_eq_true rfl | omega | decide) | ((with_reducible apply Vl.mk (α := Int)); · (first | (with_reducible exact bits_keep _ _ _ _) | ((rewrite [tdiv_pos]); (focus (first | exact wi64 (by omega) (by omega) | exact wu32 (by omega) (by omega) | exact wi32 (by omega) (by omega))); omega) | exact tmod_pos (by omega) | exact wi64 (by omega) (by omega) | exact wu32 (by omega) (by omega) | exact wu32' _ | exact wu8 (by omega) (by omega) | exact wu64 (by omega) (by omega) | exact wi32 (by omega) (by omega) | rfl)) | ((with_reducible first | apply Vl.mk (α := Bool) | apply Vl.mk (α := Nat) | apply Vl.mk (α := ByteArray) | apply Ge.mk (α := Row) | apply Ge.mk (α := SV) | apply Ge.mk (α := AV)); · exact rfl) | (refine And.intro rfl ?_) | ((with_reducible first | apply Vl.mk (α := List SV) | apply Vl.mk (α := Ef) | apply Vl.mk (α := TV) | apply Ge.mk (α := List SV) | apply Sg.mk | apply Sk.mk); · (first | exact setAll_eq rfl | exact sg_all _ rfl | exact sk_all _ rfl rfl | ((first | apply sg_fc | apply sk_fc | (apply fc_eq; (conv => arg 1; whnf); apply fc_some) | apply fc_eq); (repeat' (first | exact fc_ren (wsv_scal _) | exact fc_ren (by assumption) | ((conv => arg 1; whnf); first | exact fc_nil | apply fc_cons | exact fc_int | exact fc_bool | exact fc_n | exact fc_ns | exact fc_ptr | exact fc_sl | exact fc_str | exact fc_unk | exact fc_fn | apply fc_s | apply fc_agg | apply fc_ta | apply fc_tup | exact fc_an | apply fc_ac | exact fc_tu | exact fc_nat | exact fc_bo | exact fc_none | apply fc_some | apply fc_pair | apply fc_row | apply fc_ef))); (all_goals exact rfl)) | ((dsimp only [Res.ef, renT, renA, renS, renN, nwN, upN, renRow, List.map_cons, List.map_nil, List.length_cons, List.length_nil]); first | done | exact rfl) | (dsimp only [setAll, List.set_cons_zero, List.set_cons_succ, List.cons_append, List.nil_append]; exact rfl) | exact rfl)) | ((first | apply Br.mk | apply Gd.mk) <;> (intro hb; first | (exact absurd hb (by decide)) | exact Bool.noConfusion (hb.symm.trans (by assumption) : true = false) | exact Bool.noConfusion (hb.symm.trans (by assumption) : false = true) | (simp only [decide_eq_true_eq, decide_eq_false_iff_not, beq_iff_eq, bne_iff_ne, beq_eq_false_iff_ne, bne_eq_false_iff_eq, Bool.not_eq_true', Bool.not_eq_false', Int.not_lt, Int.not_le, ge_iff_le, gt_iff_lt, ne_eq, Classical.not_not] at hb; first | (exfalso; omega) | skip) | skip)) | (apply Sd.mk; · (repeat' apply And.intro) <;> (try simp only [tysz, tybz, Int.toNat_natCast, Int.toNat_zero, Int.toNat_one, Nat.zero_add, Nat.zero_mul, Nat.mul_one, Nat.one_mul, Nat.add_zero, Int.sub_zero, Option.getD_some, Option.getD_none, Int.toNat_natCast_add_one]) <;> first | exact rfl | omega))); (all_goals (try (conv => whnf)))
  all_goals first | (apply Fin.mk (m := [(0, some 0), (1, some 1), (2, some 2)]); (focus exact rfl); (all_goals ((try (show HlS _ _ [] _)); first | ((repeat' (first | exact SVsM.nil | exact avsm_nil | exact svm_same rfl | exact svm_ptr rfl | exact svm_sl rfl | exact svm_slnil rfl | exact svsm_scal rfl | exact svsm_scal (wsv_scal _) | exact svsm_scal (by assumption) | exact hls_nil | apply SVsM.cons | apply tvm_a | apply tvm_tup | apply avm_agg | apply avm_s | apply avsm_cons | exact trivial | (refine hls_skip rfl ?_) | apply hls_none | apply hls_row | (refine rowmt_mk rfl rfl rfl rfl ?_) | exact rowmt_nil rfl rfl)); done) | exact rfl))) | trace_state
set_option maxHeartbeats 4000000 in
set_option maxRecDepth 100000 in
theorem tells_nil (T : List Te) (N : Nat) (hN : T.length = N) (hN20 : N ≤ 20) (hT : TB T) (ls as_ : List Int) (nl na : Nat) (hl : ls.length = nl) (ha : as_.length = na) (hna : na ≤ 30) (hz : na = 0) (pages : Int) (root va : Nat) (hroot : root < 4294967296) (hva : va < 4294967296) (ac at_ : Int) (x : Te) (hx : x.p < 4294967296 ∧ x.f < 4294967296) :
    Fn Try.prog 3 [.s (.sl 0 0 N), .s (.bool false), .s (.sl 1 0 nl), .s (.sl 2 0 na), .s (.int .i64 pages), .s (.int .u32 root), .s (.int .u32 va), .s (.int .i64 ac), .s (.int .i64 at_), .agg x.C] [⟨false, 4, tes T⟩, ⟨false, 1, isv .i64 ls⟩, ⟨false, 1, isv .i64 as_⟩] (· = ⟨.a (.s (.bool true)), [], []⟩) := by
  obtain ⟨xp, xf, xw, xx⟩ := x
  dsimp only [Te.C]
  obtain ⟨k, hk⟩ : ∃ k : Nat, pages % 8 = (k : Int) := ⟨(pages % 8).toNat, by omega⟩
  obtain ⟨n, hn⟩ : ∃ n, n = (1 + k) * 32 := ⟨_, rfl⟩
  obtain ⟨xs, hX, ct⟩ := tables_fn ls nl hl pages k hk n hn
  have hsl := isv_scal .i64 ls
  have hsa := isv_scal .i64 as_
  obtain ⟨r, hr'⟩ : ∃ r, r = root % 9 := ⟨_, rfl⟩
  have er : (root : Int).tmod 9 = (r : Int) := by rw [tmod_pos (by omega)]; omega
  have hr : r < 4294967296 := by omega
  subst hz
  have cfl := filled_nil (wsv xs) (isv .i64 as_) n r (wsv_scal _) hsa
  obtain ⟨T3, hT3d⟩ : ∃ T3 : List Te, T3 = [] := ⟨_, rfl⟩
  have hN3 : T3.length = 0 := by rw [hT3d]; rfl
  have hT3 : TB T3 := by rw [hT3d]; exact TB_nil
  have he3 : tes T3 = [] := by rw [hT3d]; rfl
  rw [← he3] at cfl
  obtain ⟨va2, hv2⟩ : ∃ v, v = va % 4200 := ⟨_, rfl⟩
  have ev : (va : Int).tmod 4200 = (va2 : Int) := by rw [tmod_pos (by omega)]; omega
  have hva2 : va2 < 4294967296 := by omega
  have cr := rnd_fn ac 5 (by omega) (by omega)
  obtain ⟨ac2, hac2⟩ : ∃ a : Int, a = ac % 5 := ⟨_, rfl⟩
  rw [← hac2] at cr
  obtain ⟨f, t', ok, hf, ht', hT', cl, cl2⟩ := look_both T3 0 hN3 (by omega) hT3 (va2 / 128) ac2
  have cf := tfill_fn T3 0 hN3 (by omega) xs n r va2 ac2 hX (by omega) hr hva2
  have cf2 := rfill_fn T3 0 hN3 (by omega) xs n r va2 ac2 hX (by omega) hr hva2
  have cs1 := sametlb_fn t' 0 ht' (by omega)
  have hfl : (fillT T3 xs n r va2 ac2).length ≤ 20 := fillT_len2 (by omega)
  have cs2 := sametlb_fn (fillT T3 xs n r va2 ac2) _ rfl (by omega)
  have cw := same_fn (fillX xs n r va2 ac2) n (fillX_B hX).1 (by omega)
  have cc := coherent_fn T3 0 hN3 (by omega) hT3 xs n r hX.1 (by omega) hX.2 hr
  have cc2 := rcoherent_fn T3 0 hN3 (by omega) hT3 xs n r hX.1 (by omega) hX.2 hr
  obtain ⟨w1, w2, w3, hwk⟩ : ∃ (w1 w2 : Nat) (w3 : Int), wlkC xs n r va2 ac2 = [.int .u32 w1, .int .u32 w2, .int .i64 w3] := by
    unfold wlkC; split
    · exact ⟨_, _, _, rfl⟩
    · exact ⟨0, 0, _, rfl⟩
  rw [hwk] at cf cf2
  have s1 := tes_scal T3
  have s2 := wsv_scal xs
  have s3 := tes_scal t'
  have s4 := tes_scal (fillT T3 xs n r va2 ac2)
  have s5 := wsv_scal (fillX xs n r va2 ac2)
  have e128 : IntKind.u32.wrap ((va2 : Int).tdiv 128) = ((va2 / 128 : Nat) : Int) := by rw [tdiv_pos (by omega), wu32 (by omega) (by omega)]; omega
  clear hwk hX hT3 hT'
  generalize cohB T3 xs n r = coh at *
  generalize tes (fillT T3 xs n r va2 ac2) = A2 at *
  generalize wsv (fillX xs n r va2 ac2) = X2 at *
  generalize (fillT T3 xs n r va2 ac2).length = N2 at *
  generalize tes t' = A1 at *
  generalize wsv xs = X1 at *
  have s6 := tes_scal T
  generalize tes T = TT at *
  generalize tes T3 = T1 at *
  generalize isv .i64 ls = LL at *
  generalize isv .i64 as_ = AA at *
  clear hT3d he3
  refine fn_of_vc mixed tys_ok _ _ Try.func3 (by kernel_rfl) rfl Try.ntmps3 (by rw [Try.results3]) rfl ?_; dsimp only [argTm, argHl, Nat.zero_add, Nat.reduceAdd, List.length_nil, List.length_cons]
  (repeat' ((conv => whnf); first | ((first | apply Br.mk | apply Gd.mk) <;> (intro hb; first | (exact absurd hb (by decide)) | exact Bool.noConfusion (hb.symm.trans (by assumption) : true = false) | exact Bool.noConfusion (hb.symm.trans (by assumption) : false = true) | (exfalso; revert hb; simp; done) | (simp only [decide_eq_true_eq, decide_eq_false_iff_not, beq_iff_eq, bne_iff_ne, beq_eq_false_iff_ne, bne_eq_false_iff_eq, Bool.not_eq_true', Bool.not_eq_false', Int.not_lt, Int.not_le, ge_iff_le, gt_iff_lt, ne_eq, Classical.not_not] at hb; first | (exfalso; omega) | (exfalso; simp_all; done) | skip) | skip))  |  (refine Eqs.mk _ (eqt_ok _ _ rfl _ _ _ rfl) ?_)  |  ((with_reducible apply Vl.mk (α := Int)); · with_reducible first | exact er | exact e128 | exact ev)  |  (refine vcall_pure (cr) rfl ?_)  |  (refine vcall_det (ct) [⟨_, 0⟩] [(_, _)] rfl ⟨rfl, trivial⟩ ⟨rfl, rowM_ro (by assumption), trivial⟩ ⟨rfl, up_ok rfl⟩ ?_)  |  (refine vcall_det (cfl) [⟨_, 0⟩, ⟨_, 0⟩] [(_, _), (_, _)] rfl ⟨rfl, rfl, trivial⟩ ⟨rfl, rowM_ro (by assumption), rfl, rowM_ro (by assumption), trivial⟩ ⟨rfl, up_ok rfl⟩ ?_)  |  (refine vcall_det (cl) [⟨_, 0⟩] [(_, _)] rfl ⟨rfl, trivial⟩ ⟨rfl, rowM_ro (by assumption), trivial⟩ ⟨rfl, up_ok rfl⟩ ?_)  |  (refine vcall_det (cl2) [⟨_, 0⟩] [(_, _)] rfl ⟨rfl, trivial⟩ ⟨rfl, rowM_ro (by assumption), trivial⟩ ⟨rfl, up_ok rfl⟩ ?_)  |  (refine vcall_det (cf) [⟨_, 0⟩, ⟨_, 0⟩] [(_, _), (_, _)] rfl ⟨rfl, rfl, trivial⟩ ⟨rfl, rowM_ro (by assumption), rfl, rowM_ro (by assumption), trivial⟩ ⟨rfl, up_ok rfl⟩ ?_)  |  (refine vcall_det (cf2) [⟨_, 0⟩, ⟨_, 0⟩] [(_, _), (_, _)] rfl ⟨rfl, rfl, trivial⟩ ⟨rfl, rowM_ro (by assumption), rfl, rowM_ro (by assumption), trivial⟩ ⟨rfl, up_ok rfl⟩ ?_)  |  (refine vcall_det (cs1) [⟨_, 0⟩, ⟨_, 0⟩] [(_, _), (_, _)] rfl ⟨rfl, rfl, trivial⟩ ⟨rfl, rowM_ro (by assumption), rfl, rowM_ro (by assumption), trivial⟩ ⟨rfl, up_ok rfl⟩ ?_)  |  (refine vcall_det (cs2) [⟨_, 0⟩, ⟨_, 0⟩] [(_, _), (_, _)] rfl ⟨rfl, rfl, trivial⟩ ⟨rfl, rowM_ro (by assumption), rfl, rowM_ro (by assumption), trivial⟩ ⟨rfl, up_ok rfl⟩ ?_)  |  (refine vcall_det (cw) [⟨_, 0⟩, ⟨_, 0⟩] [(_, _), (_, _)] rfl ⟨rfl, rfl, trivial⟩ ⟨rfl, rowM_ro (by assumption), rfl, rowM_ro (by assumption), trivial⟩ ⟨rfl, up_ok rfl⟩ ?_)  |  (refine vcall_det (cc) [⟨_, 0⟩, ⟨_, 0⟩] [(_, _), (_, _)] rfl ⟨rfl, rfl, trivial⟩ ⟨rfl, rowM_ro (by assumption), rfl, rowM_ro (by assumption), trivial⟩ ⟨rfl, up_ok rfl⟩ ?_)  |  (refine vcall_det (cc2) [⟨_, 0⟩, ⟨_, 0⟩] [(_, _), (_, _)] rfl ⟨rfl, rfl, trivial⟩ ⟨rfl, rowM_ro (by assumption), rfl, rowM_ro (by assumption), trivial⟩ ⟨rfl, up_ok rfl⟩ ?_)  |  (refine vcall_pure (f := 6) (awake14_fn) rfl ?_) | ((with_reducible apply Vl.mk (α := Nat)); · ((try simp only [tysz, tybz, Int.toNat_natCast, Int.toNat_zero, Int.toNat_one, Nat.zero_add, Nat.zero_mul, Nat.mul_one, Nat.one_mul, Nat.add_zero, Int.sub_zero, Option.getD_some, Option.getD_none, Int.toNat_natCast_add_one]); exact rfl)) | (with_reducible apply sd_draw; · kernel_rfl) | (apply Sd.mk; · first | exact rfl | trivial | omega | (repeat' apply And.intro) <;> first | exact rfl | exact Nat.le_of_ble_eq_true rfl | omega | decide) | ((with_reducible apply Vl.mk (α := Int)); · (first | (with_reducible exact bits_keep _ _ _ _) | ((rewrite [tdiv_pos]); (focus (first | exact wi64 (by omega) (by omega) | exact wu32 (by omega) (by omega) | exact wi32 (by omega) (by omega))); omega) | exact tmod_pos (by omega) | exact wi64 (by omega) (by omega) | exact wu32 (by omega) (by omega) | exact wu32' _ | exact wu8 (by omega) (by omega) | exact wu64 (by omega) (by omega) | exact wi32 (by omega) (by omega) | rfl)) | ((with_reducible first | apply Vl.mk (α := Bool) | apply Vl.mk (α := Nat) | apply Vl.mk (α := ByteArray) | apply Ge.mk (α := Row) | apply Ge.mk (α := SV) | apply Ge.mk (α := AV)); · exact rfl) | (refine And.intro rfl ?_) | ((with_reducible first | apply Vl.mk (α := List SV) | apply Vl.mk (α := Ef) | apply Vl.mk (α := TV) | apply Ge.mk (α := List SV) | apply Sg.mk | apply Sk.mk); · (first | exact setAll_eq rfl | exact sg_all _ rfl | exact sk_all _ rfl rfl | ((first | apply sg_fc | apply sk_fc | (apply fc_eq; (conv => arg 1; whnf); apply fc_some) | apply fc_eq); (repeat' (first | exact fc_ren (wsv_scal _) | exact fc_ren (by assumption) | ((conv => arg 1; whnf); first | exact fc_nil | apply fc_cons | exact fc_int | exact fc_bool | exact fc_n | exact fc_ns | exact fc_ptr | exact fc_sl | exact fc_str | exact fc_unk | exact fc_fn | apply fc_s | apply fc_agg | apply fc_ta | apply fc_tup | exact fc_an | apply fc_ac | exact fc_tu | exact fc_nat | exact fc_bo | exact fc_none | apply fc_some | apply fc_pair | apply fc_row | apply fc_ef))); (all_goals exact rfl)) | ((dsimp only [Res.ef, renT, renA, renS, renN, nwN, upN, renRow, List.map_cons, List.map_nil, List.length_cons, List.length_nil]); first | done | exact rfl) | (dsimp only [setAll, List.set_cons_zero, List.set_cons_succ, List.cons_append, List.nil_append]; exact rfl) | exact rfl)) | ((first | apply Br.mk | apply Gd.mk) <;> (intro hb; first | (exact absurd hb (by decide)) | exact Bool.noConfusion (hb.symm.trans (by assumption) : true = false) | exact Bool.noConfusion (hb.symm.trans (by assumption) : false = true) | (simp only [decide_eq_true_eq, decide_eq_false_iff_not, beq_iff_eq, bne_iff_ne, beq_eq_false_iff_ne, bne_eq_false_iff_eq, Bool.not_eq_true', Bool.not_eq_false', Int.not_lt, Int.not_le, ge_iff_le, gt_iff_lt, ne_eq, Classical.not_not] at hb; first | (exfalso; omega) | skip) | skip)) | (apply Sd.mk; · (repeat' apply And.intro) <;> (try simp only [tysz, tybz, Int.toNat_natCast, Int.toNat_zero, Int.toNat_one, Nat.zero_add, Nat.zero_mul, Nat.mul_one, Nat.one_mul, Nat.add_zero, Int.sub_zero, Option.getD_some, Option.getD_none, Int.toNat_natCast_add_one]) <;> first | exact rfl | omega))); (all_goals (try (conv => whnf)))
  all_goals first | (apply Fin.mk (m := [(0, some 0), (1, some 1), (2, some 2)]); (focus exact rfl); (all_goals ((try (show HlS _ _ [] _)); first | ((repeat' (first | exact SVsM.nil | exact avsm_nil | exact svm_same rfl | exact svm_ptr rfl | exact svm_sl rfl | exact svm_slnil rfl | exact svsm_scal rfl | exact svsm_scal (wsv_scal _) | exact svsm_scal (by assumption) | exact hls_nil | apply SVsM.cons | apply tvm_a | apply tvm_tup | apply avm_agg | apply avm_s | apply avsm_cons | exact trivial | (refine hls_skip rfl ?_) | apply hls_none | apply hls_row | (refine rowmt_mk rfl rfl rfl rfl ?_) | exact rowmt_nil rfl rfl)); done) | exact rfl))) | trace_state
set_option maxHeartbeats 4000000 in
set_option maxRecDepth 100000 in
theorem tells_fil (T : List Te) (N : Nat) (hN : T.length = N) (hN20 : N ≤ 20) (hT : TB T) (ls as_ : List Int) (nl na : Nat) (hl : ls.length = nl) (ha : as_.length = na) (hna : na ≤ 30) (hpos : 0 < na) (pages : Int) (root va : Nat) (hroot : root < 4294967296) (hva : va < 4294967296) (ac at_ : Int) (x : Te) (hx : x.p < 4294967296 ∧ x.f < 4294967296) :
    Fn Try.prog 3 [.s (.sl 0 0 N), .s (.bool false), .s (.sl 1 0 nl), .s (.sl 2 0 na), .s (.int .i64 pages), .s (.int .u32 root), .s (.int .u32 va), .s (.int .i64 ac), .s (.int .i64 at_), .agg x.C] [⟨false, 4, tes T⟩, ⟨false, 1, isv .i64 ls⟩, ⟨false, 1, isv .i64 as_⟩] (· = ⟨.a (.s (.bool true)), [], []⟩) := by
  obtain ⟨xp, xf, xw, xx⟩ := x
  dsimp only [Te.C]
  obtain ⟨k, hk⟩ : ∃ k : Nat, pages % 8 = (k : Int) := ⟨(pages % 8).toNat, by omega⟩
  obtain ⟨n, hn⟩ : ∃ n, n = (1 + k) * 32 := ⟨_, rfl⟩
  obtain ⟨xs, hX, ct⟩ := tables_fn ls nl hl pages k hk n hn
  have hsl := isv_scal .i64 ls
  have hsa := isv_scal .i64 as_
  obtain ⟨r, hr'⟩ : ∃ r, r = root % 9 := ⟨_, rfl⟩
  have er : (root : Int).tmod 9 = (r : Int) := by rw [tmod_pos (by omega)]; omega
  have hr : r < 4294967296 := by omega
  obtain ⟨va2, hv2⟩ : ∃ v, v = va % 4200 := ⟨_, rfl⟩
  have ev : (va : Int).tmod 4200 = (va2 : Int) := by rw [tmod_pos (by omega)]; omega
  have hva2 : va2 < 4294967296 := by omega
  have cr := rnd_fn ac 5 (by omega) (by omega)
  obtain ⟨ac2, hac2⟩ : ∃ a : Int, a = ac % 5 := ⟨_, rfl⟩
  rw [← hac2] at cr
  obtain ⟨t2, x3, hT2, ht8, hX3, cfl⟩ := filled_fn xs n hX (by omega) r hr as_ na ha (by omega) hpos
  obtain ⟨N3, hN2⟩ : ∃ N3, t2.length = N3 := ⟨_, rfl⟩
  rw [hN2] at cfl ht8
  have s6 := tes_scal T
  have s7 := wsv_scal xs
  have s8 := tes_scal t2
  have hTl := tes_len t2
  rw [hN2] at hTl
  by_cases hs : 0 < N3 ∧ bits BinOp.and IntKind.i64 at_ 1 = 1
  · obtain ⟨I, hI⟩ : ∃ I : Nat, at_ % (N3 : Int) = (I : Int) := ⟨(at_ % (N3 : Int)).toNat, by have := Int.emod_nonneg at_ (b := (N3 : Int)) (by omega); omega⟩
    have hI3 : I < N3 := by have := Int.emod_lt_of_pos at_ (b := (N3 : Int)) (by omega); omega
    have ci := rnd_fn at_ (N3 : Int) (by omega) (by omega)
    rw [hI] at ci
    obtain ⟨hs1, hs2⟩ := hs
    have e40 : (xp : Int).tmod 40 = ((xp % 40 : Nat) : Int) := by rw [tmod_pos (by omega)]; omega
    have e9 : (xf : Int).tmod 9 = ((xf % 9 : Nat) : Int) := by rw [tmod_pos (by omega)]; omega
    have hset := tes_set t2 I ⟨xp % 40, xf % 9, xw, xx⟩ (by omega)
    dsimp only [Te.C] at hset
    obtain ⟨T3, hT3d⟩ : ∃ T3 : List Te, T3 = t2.set I ⟨xp % 40, xf % 9, xw, xx⟩ := ⟨_, rfl⟩
    rw [← hT3d] at hset
    have hN3 : T3.length = N3 := by rw [hT3d, List.length_set]; exact hN2
    have hT3 : TB T3 := by
      intro e he
      rw [hT3d] at he
      rcases mem_setT he with h | h
      · exact hT2 e h
      · subst h; exact ⟨by show xp % 40 < _; omega, by show xf % 9 < _; omega⟩
    have x1 : 0 + ((I : Nat) : Int).toNat * ty26.size = I * 4 := by show 0 + ((I : Nat) : Int).toNat * 4 = _; omega
    clear hT3d hX hT
    obtain ⟨f, t', ok, hf, ht', hT', cl, cl2⟩ := look_both T3 N3 hN3 (by omega) hT3 (va2 / 128) ac2
    have cf := tfill_fn T3 N3 hN3 (by omega) x3 n r va2 ac2 hX3 (by omega) hr hva2
    have cf2 := rfill_fn T3 N3 hN3 (by omega) x3 n r va2 ac2 hX3 (by omega) hr hva2
    have cs1 := sametlb_fn t' N3 ht' (by omega)
    have hfl : (fillT T3 x3 n r va2 ac2).length ≤ 20 := fillT_len2 (by omega)
    have cs2 := sametlb_fn (fillT T3 x3 n r va2 ac2) _ rfl (by omega)
    have cw := same_fn (fillX x3 n r va2 ac2) n (fillX_B hX3).1 (by omega)
    have cc := coherent_fn T3 N3 hN3 (by omega) hT3 x3 n r hX3.1 (by omega) hX3.2 hr
    have cc2 := rcoherent_fn T3 N3 hN3 (by omega) hT3 x3 n r hX3.1 (by omega) hX3.2 hr
    obtain ⟨w1, w2, w3, hwk⟩ : ∃ (w1 w2 : Nat) (w3 : Int), wlkC x3 n r va2 ac2 = [.int .u32 w1, .int .u32 w2, .int .i64 w3] := by
      unfold wlkC; split
      · exact ⟨_, _, _, rfl⟩
      · exact ⟨0, 0, _, rfl⟩
    rw [hwk] at cf cf2
    have s1 := tes_scal T3
    have s2 := wsv_scal x3
    have s3 := tes_scal t'
    have s4 := tes_scal (fillT T3 x3 n r va2 ac2)
    have s5 := wsv_scal (fillX x3 n r va2 ac2)
    have e128 : IntKind.u32.wrap ((va2 : Int).tdiv 128) = ((va2 / 128 : Nat) : Int) := by rw [tdiv_pos (by omega), wu32 (by omega) (by omega)]; omega
    clear hwk hX3 hT3 hT'
    generalize cohB T3 x3 n r = coh at *
    generalize tes (fillT T3 x3 n r va2 ac2) = A2 at *
    generalize wsv (fillX x3 n r va2 ac2) = X2 at *
    generalize (fillT T3 x3 n r va2 ac2).length = N2 at *
    generalize tes t' = A1 at *
    generalize wsv x3 = X1 at *
    generalize tes T = TT at *
    generalize tes T3 = T1 at *
    generalize tes t2 = T2 at *
    generalize wsv xs = XX at *
    generalize isv .i64 ls = LL at *
    generalize isv .i64 as_ = AA at *
    refine fn_of_vc mixed tys_ok _ _ Try.func3 (by kernel_rfl) rfl Try.ntmps3 (by rw [Try.results3]) rfl ?_; dsimp only [argTm, argHl, Nat.zero_add, Nat.reduceAdd, List.length_nil, List.length_cons]
    (repeat' ((conv => whnf); first | ((first | apply Br.mk | apply Gd.mk) <;> (intro hb; first | (exact absurd hb (by decide)) | exact Bool.noConfusion (hb.symm.trans (by assumption) : true = false) | exact Bool.noConfusion (hb.symm.trans (by assumption) : false = true) | (exfalso; revert hb; simp; done) | (simp only [decide_eq_true_eq, decide_eq_false_iff_not, beq_iff_eq, bne_iff_ne, beq_eq_false_iff_ne, bne_eq_false_iff_eq, Bool.not_eq_true', Bool.not_eq_false', Int.not_lt, Int.not_le, ge_iff_le, gt_iff_lt, ne_eq, Classical.not_not] at hb; first | (exfalso; omega) | (exfalso; simp_all; done) | skip) | skip))  |  (refine Eqs.mk _ (eqt_ok _ _ rfl _ _ _ rfl) ?_)  |  ((with_reducible apply Vl.mk (α := Int)); · with_reducible first | exact er | exact e128 | exact ev | exact e40 | exact e9)  |  ((with_reducible apply Vl.mk (α := Nat)); · exact x1)  |  (apply Sd.mk; · first | omega | (refine ⟨rfl, rfl, rfl, ?_⟩; show _ + 4 ≤ T2.length; omega))  |  ((with_reducible apply Vl.mk (α := List SV)); · with_reducible exact hset)  |  (refine vcall_pure (cr) rfl ?_)  |  (refine vcall_pure (ci) rfl ?_)  |  (refine vcall_det (ct) [⟨_, 0⟩] [(_, _)] rfl ⟨rfl, trivial⟩ ⟨rfl, rowM_ro (by assumption), trivial⟩ ⟨rfl, up_ok rfl⟩ ?_)  |  (refine vcall_det (cfl) [⟨_, 0⟩, ⟨_, 0⟩] [(_, _), (_, _)] rfl ⟨rfl, rfl, trivial⟩ ⟨rfl, rowM_ro (by assumption), rfl, rowM_ro (by assumption), trivial⟩ ⟨rfl, up_ok rfl⟩ ?_)  |  (refine vcall_det (cl) [⟨_, 0⟩] [(_, _)] rfl ⟨rfl, trivial⟩ ⟨rfl, rowM_ro (by assumption), trivial⟩ ⟨rfl, up_ok rfl⟩ ?_)  |  (refine vcall_det (cl2) [⟨_, 0⟩] [(_, _)] rfl ⟨rfl, trivial⟩ ⟨rfl, rowM_ro (by assumption), trivial⟩ ⟨rfl, up_ok rfl⟩ ?_)  |  (refine vcall_det (cf) [⟨_, 0⟩, ⟨_, 0⟩] [(_, _), (_, _)] rfl ⟨rfl, rfl, trivial⟩ ⟨rfl, rowM_ro (by assumption), rfl, rowM_ro (by assumption), trivial⟩ ⟨rfl, up_ok rfl⟩ ?_)  |  (refine vcall_det (cf2) [⟨_, 0⟩, ⟨_, 0⟩] [(_, _), (_, _)] rfl ⟨rfl, rfl, trivial⟩ ⟨rfl, rowM_ro (by assumption), rfl, rowM_ro (by assumption), trivial⟩ ⟨rfl, up_ok rfl⟩ ?_)  |  (refine vcall_det (cs1) [⟨_, 0⟩, ⟨_, 0⟩] [(_, _), (_, _)] rfl ⟨rfl, rfl, trivial⟩ ⟨rfl, rowM_ro (by assumption), rfl, rowM_ro (by assumption), trivial⟩ ⟨rfl, up_ok rfl⟩ ?_)  |  (refine vcall_det (cs2) [⟨_, 0⟩, ⟨_, 0⟩] [(_, _), (_, _)] rfl ⟨rfl, rfl, trivial⟩ ⟨rfl, rowM_ro (by assumption), rfl, rowM_ro (by assumption), trivial⟩ ⟨rfl, up_ok rfl⟩ ?_)  |  (refine vcall_det (cw) [⟨_, 0⟩, ⟨_, 0⟩] [(_, _), (_, _)] rfl ⟨rfl, rfl, trivial⟩ ⟨rfl, rowM_ro (by assumption), rfl, rowM_ro (by assumption), trivial⟩ ⟨rfl, up_ok rfl⟩ ?_)  |  (refine vcall_det (cc) [⟨_, 0⟩, ⟨_, 0⟩] [(_, _), (_, _)] rfl ⟨rfl, rfl, trivial⟩ ⟨rfl, rowM_ro (by assumption), rfl, rowM_ro (by assumption), trivial⟩ ⟨rfl, up_ok rfl⟩ ?_)  |  (refine vcall_det (cc2) [⟨_, 0⟩, ⟨_, 0⟩] [(_, _), (_, _)] rfl ⟨rfl, rfl, trivial⟩ ⟨rfl, rowM_ro (by assumption), rfl, rowM_ro (by assumption), trivial⟩ ⟨rfl, up_ok rfl⟩ ?_)  |  (refine vcall_pure (f := 6) (awake14_fn) rfl ?_) | ((with_reducible apply Vl.mk (α := Nat)); · ((try simp only [tysz, tybz, Int.toNat_natCast, Int.toNat_zero, Int.toNat_one, Nat.zero_add, Nat.zero_mul, Nat.mul_one, Nat.one_mul, Nat.add_zero, Int.sub_zero, Option.getD_some, Option.getD_none, Int.toNat_natCast_add_one]); exact rfl)) | (with_reducible apply sd_draw; · kernel_rfl) | (apply Sd.mk; · first | exact rfl | trivial | omega | (repeat' apply And.intro) <;> first | exact rfl | exact Nat.le_of_ble_eq_true rfl | omega | decide) | ((with_reducible apply Vl.mk (α := Int)); · (first | (with_reducible exact bits_keep _ _ _ _) | ((rewrite [tdiv_pos]); (focus (first | exact wi64 (by omega) (by omega) | exact wu32 (by omega) (by omega) | exact wi32 (by omega) (by omega))); omega) | exact tmod_pos (by omega) | exact wi64 (by omega) (by omega) | exact wu32 (by omega) (by omega) | exact wu32' _ | exact wu8 (by omega) (by omega) | exact wu64 (by omega) (by omega) | exact wi32 (by omega) (by omega) | rfl)) | ((with_reducible first | apply Vl.mk (α := Bool) | apply Vl.mk (α := Nat) | apply Vl.mk (α := ByteArray) | apply Ge.mk (α := Row) | apply Ge.mk (α := SV) | apply Ge.mk (α := AV)); · exact rfl) | (refine And.intro rfl ?_) | ((with_reducible first | apply Vl.mk (α := List SV) | apply Vl.mk (α := Ef) | apply Vl.mk (α := TV) | apply Ge.mk (α := List SV) | apply Sg.mk | apply Sk.mk); · (first | exact setAll_eq rfl | exact sg_all _ rfl | exact sk_all _ rfl rfl | ((first | apply sg_fc | apply sk_fc | (apply fc_eq; (conv => arg 1; whnf); apply fc_some) | apply fc_eq); (repeat' (first | exact fc_ren (wsv_scal _) | exact fc_ren (by assumption) | ((conv => arg 1; whnf); first | exact fc_nil | apply fc_cons | exact fc_int | exact fc_bool | exact fc_n | exact fc_ns | exact fc_ptr | exact fc_sl | exact fc_str | exact fc_unk | exact fc_fn | apply fc_s | apply fc_agg | apply fc_ta | apply fc_tup | exact fc_an | apply fc_ac | exact fc_tu | exact fc_nat | exact fc_bo | exact fc_none | apply fc_some | apply fc_pair | apply fc_row | apply fc_ef))); (all_goals exact rfl)) | ((dsimp only [Res.ef, renT, renA, renS, renN, nwN, upN, renRow, List.map_cons, List.map_nil, List.length_cons, List.length_nil]); first | done | exact rfl) | (dsimp only [setAll, List.set_cons_zero, List.set_cons_succ, List.cons_append, List.nil_append]; exact rfl) | exact rfl)) | ((first | apply Br.mk | apply Gd.mk) <;> (intro hb; first | (exact absurd hb (by decide)) | exact Bool.noConfusion (hb.symm.trans (by assumption) : true = false) | exact Bool.noConfusion (hb.symm.trans (by assumption) : false = true) | (simp only [decide_eq_true_eq, decide_eq_false_iff_not, beq_iff_eq, bne_iff_ne, beq_eq_false_iff_ne, bne_eq_false_iff_eq, Bool.not_eq_true', Bool.not_eq_false', Int.not_lt, Int.not_le, ge_iff_le, gt_iff_lt, ne_eq, Classical.not_not] at hb; first | (exfalso; omega) | skip) | skip)) | (apply Sd.mk; · (repeat' apply And.intro) <;> (try simp only [tysz, tybz, Int.toNat_natCast, Int.toNat_zero, Int.toNat_one, Nat.zero_add, Nat.zero_mul, Nat.mul_one, Nat.one_mul, Nat.add_zero, Int.sub_zero, Option.getD_some, Option.getD_none, Int.toNat_natCast_add_one]) <;> first | exact rfl | omega))); (all_goals (try (conv => whnf)))
    all_goals first | (apply Fin.mk (m := [(0, some 0), (1, some 1), (2, some 2)]); (focus exact rfl); (all_goals ((try (show HlS _ _ [] _)); first | ((repeat' (first | exact SVsM.nil | exact avsm_nil | exact svm_same rfl | exact svm_ptr rfl | exact svm_sl rfl | exact svm_slnil rfl | exact svsm_scal rfl | exact svsm_scal (wsv_scal _) | exact svsm_scal (by assumption) | exact hls_nil | apply SVsM.cons | apply tvm_a | apply tvm_tup | apply avm_agg | apply avm_s | apply avsm_cons | exact trivial | (refine hls_skip rfl ?_) | apply hls_none | apply hls_row | (refine rowmt_mk rfl rfl rfl rfl ?_) | exact rowmt_nil rfl rfl)); done) | exact rfl))) | trace_state
  · clear hX hT
    obtain ⟨f, t', ok, hf, ht', hT', cl, cl2⟩ := look_both t2 N3 hN2 (by omega) hT2 (va2 / 128) ac2
    have cf := tfill_fn t2 N3 hN2 (by omega) x3 n r va2 ac2 hX3 (by omega) hr hva2
    have cf2 := rfill_fn t2 N3 hN2 (by omega) x3 n r va2 ac2 hX3 (by omega) hr hva2
    have cs1 := sametlb_fn t' N3 ht' (by omega)
    have hfl : (fillT t2 x3 n r va2 ac2).length ≤ 20 := fillT_len2 (by omega)
    have cs2 := sametlb_fn (fillT t2 x3 n r va2 ac2) _ rfl (by omega)
    have cw := same_fn (fillX x3 n r va2 ac2) n (fillX_B hX3).1 (by omega)
    have cc := coherent_fn t2 N3 hN2 (by omega) hT2 x3 n r hX3.1 (by omega) hX3.2 hr
    have cc2 := rcoherent_fn t2 N3 hN2 (by omega) hT2 x3 n r hX3.1 (by omega) hX3.2 hr
    obtain ⟨w1, w2, w3, hwk⟩ : ∃ (w1 w2 : Nat) (w3 : Int), wlkC x3 n r va2 ac2 = [.int .u32 w1, .int .u32 w2, .int .i64 w3] := by
      unfold wlkC; split
      · exact ⟨_, _, _, rfl⟩
      · exact ⟨0, 0, _, rfl⟩
    rw [hwk] at cf cf2
    have s1 := tes_scal t2
    have s2 := wsv_scal x3
    have s3 := tes_scal t'
    have s4 := tes_scal (fillT t2 x3 n r va2 ac2)
    have s5 := wsv_scal (fillX x3 n r va2 ac2)
    have e128 : IntKind.u32.wrap ((va2 : Int).tdiv 128) = ((va2 / 128 : Nat) : Int) := by rw [tdiv_pos (by omega), wu32 (by omega) (by omega)]; omega
    clear hwk hX3 hT2 hT'
    generalize cohB t2 x3 n r = coh at *
    generalize tes (fillT t2 x3 n r va2 ac2) = A2 at *
    generalize wsv (fillX x3 n r va2 ac2) = X2 at *
    generalize (fillT t2 x3 n r va2 ac2).length = N2 at *
    generalize tes t' = A1 at *
    generalize wsv x3 = X1 at *
    generalize tes T = TT at *
    generalize tes t2 = T1 at *
    generalize wsv xs = XX at *
    generalize isv .i64 ls = LL at *
    generalize isv .i64 as_ = AA at *
    refine fn_of_vc mixed tys_ok _ _ Try.func3 (by kernel_rfl) rfl Try.ntmps3 (by rw [Try.results3]) rfl ?_; dsimp only [argTm, argHl, Nat.zero_add, Nat.reduceAdd, List.length_nil, List.length_cons]
    (repeat' ((conv => whnf); first | ((first | apply Br.mk | apply Gd.mk) <;> (intro hb; first | (exact absurd hb (by decide)) | exact Bool.noConfusion (hb.symm.trans (by assumption) : true = false) | exact Bool.noConfusion (hb.symm.trans (by assumption) : false = true) | (exfalso; revert hb; simp; done) | (simp only [decide_eq_true_eq, decide_eq_false_iff_not, beq_iff_eq, bne_iff_ne, beq_eq_false_iff_ne, bne_eq_false_iff_eq, Bool.not_eq_true', Bool.not_eq_false', Int.not_lt, Int.not_le, ge_iff_le, gt_iff_lt, ne_eq, Classical.not_not] at hb; first | (exfalso; omega) | (exfalso; simp_all; done) | skip) | skip))  |  (refine Eqs.mk _ (eqt_ok _ _ rfl _ _ _ rfl) ?_)  |  ((with_reducible apply Vl.mk (α := Int)); · with_reducible first | exact er | exact e128 | exact ev)  |  (refine vcall_pure (cr) rfl ?_)  |  (refine vcall_det (ct) [⟨_, 0⟩] [(_, _)] rfl ⟨rfl, trivial⟩ ⟨rfl, rowM_ro (by assumption), trivial⟩ ⟨rfl, up_ok rfl⟩ ?_)  |  (refine vcall_det (cfl) [⟨_, 0⟩, ⟨_, 0⟩] [(_, _), (_, _)] rfl ⟨rfl, rfl, trivial⟩ ⟨rfl, rowM_ro (by assumption), rfl, rowM_ro (by assumption), trivial⟩ ⟨rfl, up_ok rfl⟩ ?_)  |  (refine vcall_det (cl) [⟨_, 0⟩] [(_, _)] rfl ⟨rfl, trivial⟩ ⟨rfl, rowM_ro (by assumption), trivial⟩ ⟨rfl, up_ok rfl⟩ ?_)  |  (refine vcall_det (cl2) [⟨_, 0⟩] [(_, _)] rfl ⟨rfl, trivial⟩ ⟨rfl, rowM_ro (by assumption), trivial⟩ ⟨rfl, up_ok rfl⟩ ?_)  |  (refine vcall_det (cf) [⟨_, 0⟩, ⟨_, 0⟩] [(_, _), (_, _)] rfl ⟨rfl, rfl, trivial⟩ ⟨rfl, rowM_ro (by assumption), rfl, rowM_ro (by assumption), trivial⟩ ⟨rfl, up_ok rfl⟩ ?_)  |  (refine vcall_det (cf2) [⟨_, 0⟩, ⟨_, 0⟩] [(_, _), (_, _)] rfl ⟨rfl, rfl, trivial⟩ ⟨rfl, rowM_ro (by assumption), rfl, rowM_ro (by assumption), trivial⟩ ⟨rfl, up_ok rfl⟩ ?_)  |  (refine vcall_det (cs1) [⟨_, 0⟩, ⟨_, 0⟩] [(_, _), (_, _)] rfl ⟨rfl, rfl, trivial⟩ ⟨rfl, rowM_ro (by assumption), rfl, rowM_ro (by assumption), trivial⟩ ⟨rfl, up_ok rfl⟩ ?_)  |  (refine vcall_det (cs2) [⟨_, 0⟩, ⟨_, 0⟩] [(_, _), (_, _)] rfl ⟨rfl, rfl, trivial⟩ ⟨rfl, rowM_ro (by assumption), rfl, rowM_ro (by assumption), trivial⟩ ⟨rfl, up_ok rfl⟩ ?_)  |  (refine vcall_det (cw) [⟨_, 0⟩, ⟨_, 0⟩] [(_, _), (_, _)] rfl ⟨rfl, rfl, trivial⟩ ⟨rfl, rowM_ro (by assumption), rfl, rowM_ro (by assumption), trivial⟩ ⟨rfl, up_ok rfl⟩ ?_)  |  (refine vcall_det (cc) [⟨_, 0⟩, ⟨_, 0⟩] [(_, _), (_, _)] rfl ⟨rfl, rfl, trivial⟩ ⟨rfl, rowM_ro (by assumption), rfl, rowM_ro (by assumption), trivial⟩ ⟨rfl, up_ok rfl⟩ ?_)  |  (refine vcall_det (cc2) [⟨_, 0⟩, ⟨_, 0⟩] [(_, _), (_, _)] rfl ⟨rfl, rfl, trivial⟩ ⟨rfl, rowM_ro (by assumption), rfl, rowM_ro (by assumption), trivial⟩ ⟨rfl, up_ok rfl⟩ ?_)  |  (refine vcall_pure (f := 6) (awake14_fn) rfl ?_) | ((with_reducible apply Vl.mk (α := Nat)); · ((try simp only [tysz, tybz, Int.toNat_natCast, Int.toNat_zero, Int.toNat_one, Nat.zero_add, Nat.zero_mul, Nat.mul_one, Nat.one_mul, Nat.add_zero, Int.sub_zero, Option.getD_some, Option.getD_none, Int.toNat_natCast_add_one]); exact rfl)) | (with_reducible apply sd_draw; · kernel_rfl) | (apply Sd.mk; · first | exact rfl | trivial | omega | (repeat' apply And.intro) <;> first | exact rfl | exact Nat.le_of_ble_eq_true rfl | omega | decide) | ((with_reducible apply Vl.mk (α := Int)); · (first | (with_reducible exact bits_keep _ _ _ _) | ((rewrite [tdiv_pos]); (focus (first | exact wi64 (by omega) (by omega) | exact wu32 (by omega) (by omega) | exact wi32 (by omega) (by omega))); omega) | exact tmod_pos (by omega) | exact wi64 (by omega) (by omega) | exact wu32 (by omega) (by omega) | exact wu32' _ | exact wu8 (by omega) (by omega) | exact wu64 (by omega) (by omega) | exact wi32 (by omega) (by omega) | rfl)) | ((with_reducible first | apply Vl.mk (α := Bool) | apply Vl.mk (α := Nat) | apply Vl.mk (α := ByteArray) | apply Ge.mk (α := Row) | apply Ge.mk (α := SV) | apply Ge.mk (α := AV)); · exact rfl) | (refine And.intro rfl ?_) | ((with_reducible first | apply Vl.mk (α := List SV) | apply Vl.mk (α := Ef) | apply Vl.mk (α := TV) | apply Ge.mk (α := List SV) | apply Sg.mk | apply Sk.mk); · (first | exact setAll_eq rfl | exact sg_all _ rfl | exact sk_all _ rfl rfl | ((first | apply sg_fc | apply sk_fc | (apply fc_eq; (conv => arg 1; whnf); apply fc_some) | apply fc_eq); (repeat' (first | exact fc_ren (wsv_scal _) | exact fc_ren (by assumption) | ((conv => arg 1; whnf); first | exact fc_nil | apply fc_cons | exact fc_int | exact fc_bool | exact fc_n | exact fc_ns | exact fc_ptr | exact fc_sl | exact fc_str | exact fc_unk | exact fc_fn | apply fc_s | apply fc_agg | apply fc_ta | apply fc_tup | exact fc_an | apply fc_ac | exact fc_tu | exact fc_nat | exact fc_bo | exact fc_none | apply fc_some | apply fc_pair | apply fc_row | apply fc_ef))); (all_goals exact rfl)) | ((dsimp only [Res.ef, renT, renA, renS, renN, nwN, upN, renRow, List.map_cons, List.map_nil, List.length_cons, List.length_nil]); first | done | exact rfl) | (dsimp only [setAll, List.set_cons_zero, List.set_cons_succ, List.cons_append, List.nil_append]; exact rfl) | exact rfl)) | ((first | apply Br.mk | apply Gd.mk) <;> (intro hb; first | (exact absurd hb (by decide)) | exact Bool.noConfusion (hb.symm.trans (by assumption) : true = false) | exact Bool.noConfusion (hb.symm.trans (by assumption) : false = true) | (simp only [decide_eq_true_eq, decide_eq_false_iff_not, beq_iff_eq, bne_iff_ne, beq_eq_false_iff_ne, bne_eq_false_iff_eq, Bool.not_eq_true', Bool.not_eq_false', Int.not_lt, Int.not_le, ge_iff_le, gt_iff_lt, ne_eq, Classical.not_not] at hb; first | (exfalso; omega) | skip) | skip)) | (apply Sd.mk; · (repeat' apply And.intro) <;> (try simp only [tysz, tybz, Int.toNat_natCast, Int.toNat_zero, Int.toNat_one, Nat.zero_add, Nat.zero_mul, Nat.mul_one, Nat.one_mul, Nat.add_zero, Int.sub_zero, Option.getD_some, Option.getD_none, Int.toNat_natCast_add_one]) <;> first | exact rfl | omega))); (all_goals (try (conv => whnf)))
    all_goals first | (apply Fin.mk (m := [(0, some 0), (1, some 1), (2, some 2)]); (focus exact rfl); (all_goals ((try (show HlS _ _ [] _)); first | ((repeat' (first | exact SVsM.nil | exact avsm_nil | exact svm_same rfl | exact svm_ptr rfl | exact svm_sl rfl | exact svm_slnil rfl | exact svsm_scal rfl | exact svsm_scal (wsv_scal _) | exact svsm_scal (by assumption) | exact hls_nil | apply SVsM.cons | apply tvm_a | apply tvm_tup | apply avm_agg | apply avm_s | apply avsm_cons | exact trivial | (refine hls_skip rfl ?_) | apply hls_none | apply hls_row | (refine rowmt_mk rfl rfl rfl rfl ?_) | exact rowmt_nil rfl rfl)); done) | exact rfl))) | trace_state
end Go.Proofs.Ythgikkibfbkoiaa
