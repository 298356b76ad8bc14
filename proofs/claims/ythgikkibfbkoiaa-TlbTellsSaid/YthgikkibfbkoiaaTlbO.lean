/- TlbTells, whole. -/
import Derived.Test.YthgikkibfbkoiaaTlbN
import Derived.Test.YthgikkibfbkoiaaShut
namespace Go.Proofs.Ythgikkibfbkoiaa
open Go Go.RowKit
set_option linter.unusedSimpArgs false
set_option linter.unusedVariables false
theorem va_te {ρ : Nm} {p f : Nat} {w x : Bool} : VA ρ (.agg [.int .u32 p, .int .u32 f, .bool w, .bool x]) (.agg #[.int .u32 p, .int .u32 f, .bool w, .bool x]) :=
  ⟨_, rfl, rfl, fun k s hs => by
    match k, hs with
    | 0, hs => injection hs with hs; subst hs; exact ⟨_, rfl, rfl⟩
    | 1, hs => injection hs with hs; subst hs; exact ⟨_, rfl, rfl⟩
    | 2, hs => injection hs with hs; subst hs; exact ⟨_, rfl, rfl⟩
    | 3, hs => injection hs with hs; subst hs; exact ⟨_, rfl, rfl⟩
    | k + 4, hs => simp at hs⟩
set_option maxHeartbeats 1000000 in
set_option maxRecDepth 100000 in
theorem tells_fn (T : List Te) (N : Nat) (hN : T.length = N) (hT : TB T) (raw : Bool) (ls as_ : List Int) (nl na : Nat) (hl : ls.length = nl) (ha : as_.length = na) (pages : Int) (root va : Nat) (hroot : root < 4294967296) (hva : va < 4294967296) (ac at_ : Int) (x : Te) (hx : x.p < 4294967296 ∧ x.f < 4294967296) :
    Fn Try.prog 3 [.s (.sl 0 0 N), .s (.bool raw), .s (.sl 1 0 nl), .s (.sl 2 0 na), .s (.int .i64 pages), .s (.int .u32 root), .s (.int .u32 va), .s (.int .i64 ac), .s (.int .i64 at_), .agg x.C] [⟨false, 4, tes T⟩, ⟨false, 1, isv .i64 ls⟩, ⟨false, 1, isv .i64 as_⟩] (· = ⟨.a (.s (.bool true)), [], []⟩) := by
  by_cases hc : N ≤ 20 ∧ na ≤ 30
  · cases raw with
    | true => exact tells_raw T N hN hc.1 hT ls as_ nl na hl ha hc.2 pages root va hroot hva ac at_ x hx
    | false =>
      by_cases hz : na = 0
      · exact tells_nil T N hN hc.1 hT ls as_ nl na hl ha hc.2 hz pages root va hroot hva ac at_ x hx
      · exact tells_fil T N hN hc.1 hT ls as_ nl na hl ha hc.2 (by omega) pages root va hroot hva ac at_ x hx
  · have s1 := tes_scal T
    have s2 := isv_scal .i64 ls
    have s3 := isv_scal .i64 as_
    obtain ⟨xp, xf, xw, xx⟩ := x
    dsimp only [Te.C]
    generalize tes T = T1 at *
    generalize isv .i64 ls = LL at *
    generalize isv .i64 as_ = AA at *
    refine fn_of_vc mixed tys_ok _ _ Try.func3 (by kernel_rfl) rfl Try.ntmps3 (by rw [Try.results3]) rfl ?_; dsimp only [argTm, argHl, Nat.zero_add, Nat.reduceAdd, List.length_nil, List.length_cons]
    (repeat' ((conv => whnf); first | ((first | apply Br.mk | apply Gd.mk) <;> (intro hb; first | (exact absurd hb (by decide)) | exact Bool.noConfusion (hb.symm.trans (by assumption) : true = false) | exact Bool.noConfusion (hb.symm.trans (by assumption) : false = true) | (exfalso; revert hb; simp; done) | (simp only [decide_eq_true_eq, decide_eq_false_iff_not, beq_iff_eq, bne_iff_ne, beq_eq_false_iff_ne, bne_eq_false_iff_eq, Bool.not_eq_true', Bool.not_eq_false', Int.not_lt, Int.not_le, ge_iff_le, gt_iff_lt, ne_eq, Classical.not_not] at hb; first | (exfalso; omega) | (exfalso; simp_all; done) | skip) | skip))  |  (refine Eqs.mk _ (eqt_ok _ _ rfl _ _ _ rfl) ?_)  |  (refine vcall_pure (f := 6) (awake14_fn) rfl ?_) | ((with_reducible apply Vl.mk (α := Nat)); · ((try simp only [tysz, tybz, Int.toNat_natCast, Int.toNat_zero, Int.toNat_one, Nat.zero_add, Nat.zero_mul, Nat.mul_one, Nat.one_mul, Nat.add_zero, Int.sub_zero, Option.getD_some, Option.getD_none, Int.toNat_natCast_add_one]); exact rfl)) | (with_reducible apply sd_draw; · kernel_rfl) | (apply Sd.mk; · first | exact rfl | trivial | omega | (repeat' apply And.intro) <;> first | exact rfl | exact Nat.le_of_ble_eq_true rfl | omega | decide) | ((with_reducible apply Vl.mk (α := Int)); · (first | (with_reducible exact bits_keep _ _ _ _) | ((rewrite [tdiv_pos]); (focus (first | exact wi64 (by omega) (by omega) | exact wu32 (by omega) (by omega) | exact wi32 (by omega) (by omega))); omega) | exact tmod_pos (by omega) | exact wi64 (by omega) (by omega) | exact wu32 (by omega) (by omega) | exact wu32' _ | exact wu8 (by omega) (by omega) | exact wu64 (by omega) (by omega) | exact wi32 (by omega) (by omega) | rfl)) | ((with_reducible first | apply Vl.mk (α := Bool) | apply Vl.mk (α := Nat) | apply Vl.mk (α := ByteArray) | apply Ge.mk (α := Row) | apply Ge.mk (α := SV) | apply Ge.mk (α := AV)); · exact rfl) | (refine And.intro rfl ?_) | ((with_reducible first | apply Vl.mk (α := List SV) | apply Vl.mk (α := Ef) | apply Vl.mk (α := TV) | apply Ge.mk (α := List SV) | apply Sg.mk | apply Sk.mk); · (first | exact setAll_eq rfl | exact sg_all _ rfl | exact sk_all _ rfl rfl | ((first | apply sg_fc | apply sk_fc | (apply fc_eq; (conv => arg 1; whnf); apply fc_some) | apply fc_eq); (repeat' (first | exact fc_ren (wsv_scal _) | exact fc_ren (by assumption) | ((conv => arg 1; whnf); first | exact fc_nil | apply fc_cons | exact fc_int | exact fc_bool | exact fc_n | exact fc_ns | exact fc_ptr | exact fc_sl | exact fc_str | exact fc_unk | exact fc_fn | apply fc_s | apply fc_agg | apply fc_ta | apply fc_tup | exact fc_an | apply fc_ac | exact fc_tu | exact fc_nat | exact fc_bo | exact fc_none | apply fc_some | apply fc_pair | apply fc_row | apply fc_ef))); (all_goals exact rfl)) | ((dsimp only [Res.ef, renT, renA, renS, renN, nwN, upN, renRow, List.map_cons, List.map_nil, List.length_cons, List.length_nil]); first | done | exact rfl) | (dsimp only [setAll, List.set_cons_zero, List.set_cons_succ, List.cons_append, List.nil_append]; exact rfl) | exact rfl)) | ((first | apply Br.mk | apply Gd.mk) <;> (intro hb; first | (exact absurd hb (by decide)) | exact Bool.noConfusion (hb.symm.trans (by assumption) : true = false) | exact Bool.noConfusion (hb.symm.trans (by assumption) : false = true) | (simp only [decide_eq_true_eq, decide_eq_false_iff_not, beq_iff_eq, bne_iff_ne, beq_eq_false_iff_ne, bne_eq_false_iff_eq, Bool.not_eq_true', Bool.not_eq_false', Int.not_lt, Int.not_le, ge_iff_le, gt_iff_lt, ne_eq, Classical.not_not] at hb; first | (exfalso; omega) | skip) | skip)) | (apply Sd.mk; · (repeat' apply And.intro) <;> (try simp only [tysz, tybz, Int.toNat_natCast, Int.toNat_zero, Int.toNat_one, Nat.zero_add, Nat.zero_mul, Nat.mul_one, Nat.one_mul, Nat.add_zero, Int.sub_zero, Option.getD_some, Option.getD_none, Int.toNat_natCast_add_one]) <;> first | exact rfl | omega))); (all_goals (try (conv => whnf)))
    all_goals first | (apply Fin.mk (m := [(0, some 0), (1, some 1), (2, some 2)]); (focus exact rfl); (all_goals ((try (show HlS _ _ [] _)); first | ((repeat' (first | exact SVsM.nil | exact avsm_nil | exact svm_same rfl | exact svm_ptr rfl | exact svm_sl rfl | exact svm_slnil rfl | exact svsm_scal rfl | exact svsm_scal (wsv_scal _) | exact svsm_scal (by assumption) | exact hls_nil | apply SVsM.cons | apply tvm_a | apply tvm_tup | apply avm_agg | apply avm_s | apply avsm_cons | exact trivial | (refine hls_skip rfl ?_) | apply hls_none | apply hls_row | (refine rowmt_mk rfl rfl rfl rfl ?_) | exact rowmt_nil rfl rfl)); done) | exact rfl))) | trace_state
end Go.Proofs.Ythgikkibfbkoiaa
