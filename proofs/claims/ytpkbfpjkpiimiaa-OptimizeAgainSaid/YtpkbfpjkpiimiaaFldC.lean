/- Folding one operation: rewrite of arithmetic; after (UNDER WAY). -/
import Derived.Test.YtpkbfpjkpiimiaaFldB
namespace Go.Proofs.Ytpkbfpjkpiimiaa
open Go Go.RowKit
set_option linter.unusedSimpArgs false
set_option linter.unusedVariables false

theorem alu_rng {o : Int} (h : aluB o = true) : (1 ≤ o ∧ o ≤ 13) ∨ (16 ≤ o ∧ o ≤ 23) := by
  have := of_decide_eq_true h
  omega
set_option maxHeartbeats 1000000 in
set_option maxRecDepth 100000 in
theorem rewG_k3 (o n : Int) (a b c k va vb vc : Nat) (is : List Bool) (v : List Nat) (ia ib ic : Bool) (hi : is.length = 16) (hv : v.length = 16) (hvr : ∀ y ∈ v, y < 4294967296) (ha : a < 16) (hb0 : b < 16) (hc : c < 16) (hk : k < 4294967296)
    (ga : is.getD a false = ia) (gb : is.getD b false = ib) (gc : is.getD c false = ic) (ua : v.getD a 0 = va) (ub : v.getD b 0 = vb) (uc : v.getD c 0 = vc) (la : va < 4294967296) (lb : vb < 4294967296) (lc : vc < 4294967296) (hB : aluB o = true) (ho : 1 ≤ o ∧ o ≤ 13) (h1 : ib = true) (h2 : ic = true) :
    Fn Try.prog 27 [.agg (Mi.C ⟨o, a, b, c, k, n⟩), .agg (knC is v)] [] (· = ⟨.a (.agg (Mi.C (rewM ⟨o, a, b, c, k, n⟩ is v))), [], []⟩) := by
  have ra := rd_is is v a hi ha
  have rb := rd_is is v b hi hb0
  have rc := rd_is is v c hi hc
  have wa := rd_val is v a hi hv ha
  have wb := rd_val is v b hi hv hb0
  have wc := rd_val is v c hi hv hc
  rw [ga] at ra
  rw [gb] at rb
  rw [gc] at rc
  rw [ua] at wa
  rw [ub] at wb
  rw [uc] at wc
  have hsc := kn_known is v
  have e : rewM ⟨o, a, b, c, k, n⟩ is v = ⟨24, a, 0, 0, aluN o vb vc, n⟩ := by
    unfold rewM
    simp only [ga, gb, gc, ua, ub, uc]
    rw [if_neg (by omega), if_neg (by omega), if_neg (by rw [hB]; simp), if_pos ⟨h1, .inr h2⟩, if_pos (show thrB o = true from decide_eq_true ho)]
  rw [e]
  clear ga gb gc ua ub uc
  have har := arithG_fn o
  have h3 := threeG_fn o
  have him := immG_fn o
  subst h1
  subst h2
  rw [show thrB o = true from decide_eq_true ho] at h3
  clear e
  have hal := alu_fn o vb vc lb lc
  rw [← aluN_cast o vb vc lb lc] at hal
  generalize aluN o vb vc = V at *
  rw [hB] at har hal
  generalize knC is v = KN at *
  refine fn_of_vc mixed tys_ok _ _ Try.func27 (by kernel_rfl) rfl Try.ntmps27 (by rw [Try.results27]) rfl ?_; dsimp only [argTm, argHl, Nat.zero_add, Nat.reduceAdd, List.length_nil, List.length_cons]
  dsimp only [Mi.C]
  (repeat' ((conv => whnf); first | (apply Sd.mk; · exact hsc)  |  ((with_reducible apply Ge.mk (α := SV)); · with_reducible first | exact ra | exact rb | exact rc | exact wa | exact wb | exact wc)  |  (refine vcall_pure (f := 34) (har) rfl ?_)  |  (refine vcall_pure (f := 35) (h3) rfl ?_)  |  (refine vcall_pure (f := 48) (him) rfl ?_)  |  (refine vcall_pure (f := 36) (hal) rfl ?_) | (with_reducible apply sd_draw; · kernel_rfl) | (apply Sd.mk; · first | exact rfl | trivial | omega | (repeat' apply And.intro) <;> first | exact rfl | exact Nat.le_of_ble_eq_true rfl | omega | decide) | ((with_reducible apply Vl.mk (α := Int)); · (first | (with_reducible exact bits_keep _ _ _ _) | ((rewrite [tdiv_pos]); (focus (first | exact wi64 (by omega) (by omega) | exact wu32 (by omega) (by omega) | exact wi32 (by omega) (by omega))); omega) | exact tmod_pos (by omega) | exact wi64 (by omega) (by omega) | exact wu32 (by omega) (by omega) | exact wu32' _ | exact wu8 (by omega) (by omega) | exact wu64 (by omega) (by omega) | exact wi32 (by omega) (by omega) | rfl)) | ((with_reducible first | apply Vl.mk (α := Bool) | apply Vl.mk (α := Nat) | apply Vl.mk (α := ByteArray) | apply Ge.mk (α := Row) | apply Ge.mk (α := SV) | apply Ge.mk (α := AV)); · exact rfl) | (refine And.intro rfl ?_) | ((with_reducible first | apply Vl.mk (α := List SV) | apply Vl.mk (α := Ef) | apply Vl.mk (α := TV) | apply Ge.mk (α := List SV) | apply Sg.mk | apply Sk.mk); · (first | exact setAll_eq rfl | exact sg_all _ rfl | exact sk_all _ rfl rfl | ((first | apply sg_fc | apply sk_fc | (apply fc_eq; (conv => arg 1; whnf); apply fc_some) | apply fc_eq); (repeat' (first | exact fc_ren (wsv_scal _) | exact fc_ren (by assumption) | ((conv => arg 1; whnf); first | exact fc_nil | apply fc_cons | exact fc_int | exact fc_bool | exact fc_n | exact fc_ns | exact fc_ptr | exact fc_sl | exact fc_str | exact fc_unk | exact fc_fn | apply fc_s | apply fc_agg | apply fc_ta | apply fc_tup | exact fc_an | apply fc_ac | exact fc_tu | exact fc_nat | exact fc_bo | exact fc_none | apply fc_some | apply fc_pair | apply fc_row | apply fc_ef))); (all_goals exact rfl)) | ((dsimp only [Res.ef, renT, renA, renS, renN, nwN, upN, renRow, List.map_cons, List.map_nil, List.length_cons, List.length_nil]); first | done | exact rfl) | (dsimp only [setAll, List.set_cons_zero, List.set_cons_succ, List.cons_append, List.nil_append]; exact rfl) | exact rfl)) | ((first | apply Br.mk | apply Gd.mk) <;> (intro hb; first | (exact absurd hb (by decide)) | exact Bool.noConfusion (hb.symm.trans (by assumption) : true = false) | exact Bool.noConfusion (hb.symm.trans (by assumption) : false = true) | (simp only [decide_eq_true_eq, decide_eq_false_iff_not, beq_iff_eq, bne_iff_ne, beq_eq_false_iff_ne, bne_eq_false_iff_eq, Bool.not_eq_true', Bool.not_eq_false', Int.not_lt, Int.not_le, ge_iff_le, gt_iff_lt, ne_eq, Classical.not_not] at hb; first | (exfalso; omega) | skip) | skip)))); (all_goals (try (conv => whnf)))
  all_goals
    first
      | exact fin_pure rfl rfl
      | trace_state
set_option maxHeartbeats 1000000 in
set_option maxRecDepth 100000 in
theorem rewG_kI (o n : Int) (a b c k va vb vc : Nat) (is : List Bool) (v : List Nat) (ia ib ic : Bool) (hi : is.length = 16) (hv : v.length = 16) (hvr : ∀ y ∈ v, y < 4294967296) (ha : a < 16) (hb0 : b < 16) (hc : c < 16) (hk : k < 4294967296)
    (ga : is.getD a false = ia) (gb : is.getD b false = ib) (gc : is.getD c false = ic) (ua : v.getD a 0 = va) (ub : v.getD b 0 = vb) (uc : v.getD c 0 = vc) (la : va < 4294967296) (lb : vb < 4294967296) (lc : vc < 4294967296) (hB : aluB o = true) (ho : 16 ≤ o ∧ o ≤ 23) (h1 : ib = true) :
    Fn Try.prog 27 [.agg (Mi.C ⟨o, a, b, c, k, n⟩), .agg (knC is v)] [] (· = ⟨.a (.agg (Mi.C (rewM ⟨o, a, b, c, k, n⟩ is v))), [], []⟩) := by
  have ra := rd_is is v a hi ha
  have rb := rd_is is v b hi hb0
  have rc := rd_is is v c hi hc
  have wa := rd_val is v a hi hv ha
  have wb := rd_val is v b hi hv hb0
  have wc := rd_val is v c hi hv hc
  rw [ga] at ra
  rw [gb] at rb
  rw [gc] at rc
  rw [ua] at wa
  rw [ub] at wb
  rw [uc] at wc
  have hsc := kn_known is v
  have e : rewM ⟨o, a, b, c, k, n⟩ is v = ⟨24, a, 0, 0, aluN o vb k, n⟩ := by
    unfold rewM
    simp only [ga, gb, gc, ua, ub, uc]
    rw [if_neg (by omega), if_neg (by omega), if_neg (by rw [hB]; simp), if_pos ⟨h1, .inl (decide_eq_false (by omega))⟩, if_neg (by rw [show thrB o = false from decide_eq_false (by omega)]; simp)]
  rw [e]
  clear ga gb gc ua ub uc
  have har := arithG_fn o
  have h3 := threeG_fn o
  have him := immG_fn o
  subst h1
  rw [show thrB o = false from decide_eq_false (by omega)] at h3
  clear e
  have hal := alu_fn o vb k lb hk
  rw [← aluN_cast o vb k lb hk] at hal
  generalize aluN o vb k = V at *
  rw [hB] at har hal
  generalize knC is v = KN at *
  refine fn_of_vc mixed tys_ok _ _ Try.func27 (by kernel_rfl) rfl Try.ntmps27 (by rw [Try.results27]) rfl ?_; dsimp only [argTm, argHl, Nat.zero_add, Nat.reduceAdd, List.length_nil, List.length_cons]
  dsimp only [Mi.C]
  (repeat' ((conv => whnf); first | (apply Sd.mk; · exact hsc)  |  ((with_reducible apply Ge.mk (α := SV)); · with_reducible first | exact ra | exact rb | exact rc | exact wa | exact wb | exact wc)  |  (refine vcall_pure (f := 34) (har) rfl ?_)  |  (refine vcall_pure (f := 35) (h3) rfl ?_)  |  (refine vcall_pure (f := 48) (him) rfl ?_)  |  (refine vcall_pure (f := 36) (hal) rfl ?_) | (with_reducible apply sd_draw; · kernel_rfl) | (apply Sd.mk; · first | exact rfl | trivial | omega | (repeat' apply And.intro) <;> first | exact rfl | exact Nat.le_of_ble_eq_true rfl | omega | decide) | ((with_reducible apply Vl.mk (α := Int)); · (first | (with_reducible exact bits_keep _ _ _ _) | ((rewrite [tdiv_pos]); (focus (first | exact wi64 (by omega) (by omega) | exact wu32 (by omega) (by omega) | exact wi32 (by omega) (by omega))); omega) | exact tmod_pos (by omega) | exact wi64 (by omega) (by omega) | exact wu32 (by omega) (by omega) | exact wu32' _ | exact wu8 (by omega) (by omega) | exact wu64 (by omega) (by omega) | exact wi32 (by omega) (by omega) | rfl)) | ((with_reducible first | apply Vl.mk (α := Bool) | apply Vl.mk (α := Nat) | apply Vl.mk (α := ByteArray) | apply Ge.mk (α := Row) | apply Ge.mk (α := SV) | apply Ge.mk (α := AV)); · exact rfl) | (refine And.intro rfl ?_) | ((with_reducible first | apply Vl.mk (α := List SV) | apply Vl.mk (α := Ef) | apply Vl.mk (α := TV) | apply Ge.mk (α := List SV) | apply Sg.mk | apply Sk.mk); · (first | exact setAll_eq rfl | exact sg_all _ rfl | exact sk_all _ rfl rfl | ((first | apply sg_fc | apply sk_fc | (apply fc_eq; (conv => arg 1; whnf); apply fc_some) | apply fc_eq); (repeat' (first | exact fc_ren (wsv_scal _) | exact fc_ren (by assumption) | ((conv => arg 1; whnf); first | exact fc_nil | apply fc_cons | exact fc_int | exact fc_bool | exact fc_n | exact fc_ns | exact fc_ptr | exact fc_sl | exact fc_str | exact fc_unk | exact fc_fn | apply fc_s | apply fc_agg | apply fc_ta | apply fc_tup | exact fc_an | apply fc_ac | exact fc_tu | exact fc_nat | exact fc_bo | exact fc_none | apply fc_some | apply fc_pair | apply fc_row | apply fc_ef))); (all_goals exact rfl)) | ((dsimp only [Res.ef, renT, renA, renS, renN, nwN, upN, renRow, List.map_cons, List.map_nil, List.length_cons, List.length_nil]); first | done | exact rfl) | (dsimp only [setAll, List.set_cons_zero, List.set_cons_succ, List.cons_append, List.nil_append]; exact rfl) | exact rfl)) | ((first | apply Br.mk | apply Gd.mk) <;> (intro hb; first | (exact absurd hb (by decide)) | exact Bool.noConfusion (hb.symm.trans (by assumption) : true = false) | exact Bool.noConfusion (hb.symm.trans (by assumption) : false = true) | (simp only [decide_eq_true_eq, decide_eq_false_iff_not, beq_iff_eq, bne_iff_ne, beq_eq_false_iff_ne, bne_eq_false_iff_eq, Bool.not_eq_true', Bool.not_eq_false', Int.not_lt, Int.not_le, ge_iff_le, gt_iff_lt, ne_eq, Classical.not_not] at hb; first | (exfalso; omega) | skip) | skip)))); (all_goals (try (conv => whnf)))
  all_goals
    first
      | exact fin_pure rfl rfl
      | trace_state
set_option maxHeartbeats 1000000 in
set_option maxRecDepth 100000 in
theorem rewG_nI (o n : Int) (a b c k va vb vc : Nat) (is : List Bool) (v : List Nat) (ia ib ic : Bool) (hi : is.length = 16) (hv : v.length = 16) (hvr : ∀ y ∈ v, y < 4294967296) (ha : a < 16) (hb0 : b < 16) (hc : c < 16) (hk : k < 4294967296)
    (ga : is.getD a false = ia) (gb : is.getD b false = ib) (gc : is.getD c false = ic) (ua : v.getD a 0 = va) (ub : v.getD b 0 = vb) (uc : v.getD c 0 = vc) (la : va < 4294967296) (lb : vb < 4294967296) (lc : vc < 4294967296) (hB : aluB o = true) (ho : 16 ≤ o ∧ o ≤ 23) (h1 : ib = false) :
    Fn Try.prog 27 [.agg (Mi.C ⟨o, a, b, c, k, n⟩), .agg (knC is v)] [] (· = ⟨.a (.agg (Mi.C (rewM ⟨o, a, b, c, k, n⟩ is v))), [], []⟩) := by
  have ra := rd_is is v a hi ha
  have rb := rd_is is v b hi hb0
  have rc := rd_is is v c hi hc
  have wa := rd_val is v a hi hv ha
  have wb := rd_val is v b hi hv hb0
  have wc := rd_val is v c hi hv hc
  rw [ga] at ra
  rw [gb] at rb
  rw [gc] at rc
  rw [ua] at wa
  rw [ub] at wb
  rw [uc] at wc
  have hsc := kn_known is v
  have e : rewM ⟨o, a, b, c, k, n⟩ is v = ⟨o, a, b, c, k, n⟩ := by
    unfold rewM
    simp only [ga, gb, gc, ua, ub, uc]
    rw [if_neg (by omega), if_neg (by omega), if_neg (by rw [hB]; simp), if_neg (by rintro ⟨h, _⟩; rw [h1] at h; cases h), if_neg (by rintro ⟨h, _⟩; apply h; unfold immV; rw [if_neg (by omega), if_neg (by omega), if_neg (by omega), if_neg (by omega), if_neg (by omega), if_neg (by omega), if_neg (by omega), if_neg (by omega)])]
  rw [e]
  clear ga gb gc ua ub uc
  have har := arithG_fn o
  have h3 := threeG_fn o
  have him := immG_fn o
  subst h1
  rw [show thrB o = false from decide_eq_false (by omega)] at h3
  rw [hB] at har
  rw [show immV o = 0 by unfold immV; rw [if_neg (by omega), if_neg (by omega), if_neg (by omega), if_neg (by omega), if_neg (by omega), if_neg (by omega), if_neg (by omega), if_neg (by omega)]] at him
  generalize knC is v = KN at *
  refine fn_of_vc mixed tys_ok _ _ Try.func27 (by kernel_rfl) rfl Try.ntmps27 (by rw [Try.results27]) rfl ?_; dsimp only [argTm, argHl, Nat.zero_add, Nat.reduceAdd, List.length_nil, List.length_cons]
  dsimp only [Mi.C]
  (repeat' ((conv => whnf); first | (apply Sd.mk; · exact hsc)  |  ((with_reducible apply Ge.mk (α := SV)); · with_reducible first | exact ra | exact rb | exact rc | exact wa | exact wb | exact wc)  |  (refine vcall_pure (f := 34) (har) rfl ?_)  |  (refine vcall_pure (f := 35) (h3) rfl ?_)  |  (refine vcall_pure (f := 48) (him) rfl ?_) | (with_reducible apply sd_draw; · kernel_rfl) | (apply Sd.mk; · first | exact rfl | trivial | omega | (repeat' apply And.intro) <;> first | exact rfl | exact Nat.le_of_ble_eq_true rfl | omega | decide) | ((with_reducible apply Vl.mk (α := Int)); · (first | (with_reducible exact bits_keep _ _ _ _) | ((rewrite [tdiv_pos]); (focus (first | exact wi64 (by omega) (by omega) | exact wu32 (by omega) (by omega) | exact wi32 (by omega) (by omega))); omega) | exact tmod_pos (by omega) | exact wi64 (by omega) (by omega) | exact wu32 (by omega) (by omega) | exact wu32' _ | exact wu8 (by omega) (by omega) | exact wu64 (by omega) (by omega) | exact wi32 (by omega) (by omega) | rfl)) | ((with_reducible first | apply Vl.mk (α := Bool) | apply Vl.mk (α := Nat) | apply Vl.mk (α := ByteArray) | apply Ge.mk (α := Row) | apply Ge.mk (α := SV) | apply Ge.mk (α := AV)); · exact rfl) | (refine And.intro rfl ?_) | ((with_reducible first | apply Vl.mk (α := List SV) | apply Vl.mk (α := Ef) | apply Vl.mk (α := TV) | apply Ge.mk (α := List SV) | apply Sg.mk | apply Sk.mk); · (first | exact setAll_eq rfl | exact sg_all _ rfl | exact sk_all _ rfl rfl | ((first | apply sg_fc | apply sk_fc | (apply fc_eq; (conv => arg 1; whnf); apply fc_some) | apply fc_eq); (repeat' (first | exact fc_ren (wsv_scal _) | exact fc_ren (by assumption) | ((conv => arg 1; whnf); first | exact fc_nil | apply fc_cons | exact fc_int | exact fc_bool | exact fc_n | exact fc_ns | exact fc_ptr | exact fc_sl | exact fc_str | exact fc_unk | exact fc_fn | apply fc_s | apply fc_agg | apply fc_ta | apply fc_tup | exact fc_an | apply fc_ac | exact fc_tu | exact fc_nat | exact fc_bo | exact fc_none | apply fc_some | apply fc_pair | apply fc_row | apply fc_ef))); (all_goals exact rfl)) | ((dsimp only [Res.ef, renT, renA, renS, renN, nwN, upN, renRow, List.map_cons, List.map_nil, List.length_cons, List.length_nil]); first | done | exact rfl) | (dsimp only [setAll, List.set_cons_zero, List.set_cons_succ, List.cons_append, List.nil_append]; exact rfl) | exact rfl)) | ((first | apply Br.mk | apply Gd.mk) <;> (intro hb; first | (exact absurd hb (by decide)) | exact Bool.noConfusion (hb.symm.trans (by assumption) : true = false) | exact Bool.noConfusion (hb.symm.trans (by assumption) : false = true) | (simp only [decide_eq_true_eq, decide_eq_false_iff_not, beq_iff_eq, bne_iff_ne, beq_eq_false_iff_ne, bne_eq_false_iff_eq, Bool.not_eq_true', Bool.not_eq_false', Int.not_lt, Int.not_le, ge_iff_le, gt_iff_lt, ne_eq, Classical.not_not] at hb; first | (exfalso; omega) | skip) | skip)))); (all_goals (try (conv => whnf)))
  all_goals
    first
      | exact fin_pure rfl rfl
      | trace_state
set_option maxHeartbeats 1000000 in
set_option maxRecDepth 100000 in
theorem rewG_n3 (o n : Int) (a b c k va vb vc : Nat) (is : List Bool) (v : List Nat) (ia ib ic : Bool) (hi : is.length = 16) (hv : v.length = 16) (hvr : ∀ y ∈ v, y < 4294967296) (ha : a < 16) (hb0 : b < 16) (hc : c < 16) (hk : k < 4294967296)
    (ga : is.getD a false = ia) (gb : is.getD b false = ib) (gc : is.getD c false = ic) (ua : v.getD a 0 = va) (ub : v.getD b 0 = vb) (uc : v.getD c 0 = vc) (la : va < 4294967296) (lb : vb < 4294967296) (lc : vc < 4294967296) (hB : aluB o = true) (ho : 1 ≤ o ∧ o ≤ 13) (h2 : ic = false) :
    Fn Try.prog 27 [.agg (Mi.C ⟨o, a, b, c, k, n⟩), .agg (knC is v)] [] (· = ⟨.a (.agg (Mi.C (rewM ⟨o, a, b, c, k, n⟩ is v))), [], []⟩) := by
  have ra := rd_is is v a hi ha
  have rb := rd_is is v b hi hb0
  have rc := rd_is is v c hi hc
  have wa := rd_val is v a hi hv ha
  have wb := rd_val is v b hi hv hb0
  have wc := rd_val is v c hi hv hc
  rw [ga] at ra
  rw [gb] at rb
  rw [gc] at rc
  rw [ua] at wa
  rw [ub] at wb
  rw [uc] at wc
  have hsc := kn_known is v
  have e : rewM ⟨o, a, b, c, k, n⟩ is v = ⟨o, a, b, c, k, n⟩ := by
    unfold rewM
    simp only [ga, gb, gc, ua, ub, uc]
    rw [if_neg (by omega), if_neg (by omega), if_neg (by rw [hB]; simp), if_neg (by rintro ⟨_, h⟩; rw [show thrB o = true from decide_eq_true ho, h2] at h; simp at h), if_neg (by rintro ⟨_, h⟩; rw [h2] at h; cases h)]
  rw [e]
  clear ga gb gc ua ub uc
  have har := arithG_fn o
  have h3 := threeG_fn o
  have him := immG_fn o
  subst h2
  rw [show thrB o = true from decide_eq_true ho] at h3
  rw [hB] at har
  generalize immV o = I at *
  generalize knC is v = KN at *
  refine fn_of_vc mixed tys_ok _ _ Try.func27 (by kernel_rfl) rfl Try.ntmps27 (by rw [Try.results27]) rfl ?_; dsimp only [argTm, argHl, Nat.zero_add, Nat.reduceAdd, List.length_nil, List.length_cons]
  dsimp only [Mi.C]
  (repeat' ((conv => whnf); first | (apply Sd.mk; · exact hsc)  |  ((with_reducible apply Ge.mk (α := SV)); · with_reducible first | exact ra | exact rb | exact rc | exact wa | exact wb | exact wc)  |  (refine vcall_pure (f := 34) (har) rfl ?_)  |  (refine vcall_pure (f := 35) (h3) rfl ?_)  |  (refine vcall_pure (f := 48) (him) rfl ?_) | (with_reducible apply sd_draw; · kernel_rfl) | (apply Sd.mk; · first | exact rfl | trivial | omega | (repeat' apply And.intro) <;> first | exact rfl | exact Nat.le_of_ble_eq_true rfl | omega | decide) | ((with_reducible apply Vl.mk (α := Int)); · (first | (with_reducible exact bits_keep _ _ _ _) | ((rewrite [tdiv_pos]); (focus (first | exact wi64 (by omega) (by omega) | exact wu32 (by omega) (by omega) | exact wi32 (by omega) (by omega))); omega) | exact tmod_pos (by omega) | exact wi64 (by omega) (by omega) | exact wu32 (by omega) (by omega) | exact wu32' _ | exact wu8 (by omega) (by omega) | exact wu64 (by omega) (by omega) | exact wi32 (by omega) (by omega) | rfl)) | ((with_reducible first | apply Vl.mk (α := Bool) | apply Vl.mk (α := Nat) | apply Vl.mk (α := ByteArray) | apply Ge.mk (α := Row) | apply Ge.mk (α := SV) | apply Ge.mk (α := AV)); · exact rfl) | (refine And.intro rfl ?_) | ((with_reducible first | apply Vl.mk (α := List SV) | apply Vl.mk (α := Ef) | apply Vl.mk (α := TV) | apply Ge.mk (α := List SV) | apply Sg.mk | apply Sk.mk); · (first | exact setAll_eq rfl | exact sg_all _ rfl | exact sk_all _ rfl rfl | ((first | apply sg_fc | apply sk_fc | (apply fc_eq; (conv => arg 1; whnf); apply fc_some) | apply fc_eq); (repeat' (first | exact fc_ren (wsv_scal _) | exact fc_ren (by assumption) | ((conv => arg 1; whnf); first | exact fc_nil | apply fc_cons | exact fc_int | exact fc_bool | exact fc_n | exact fc_ns | exact fc_ptr | exact fc_sl | exact fc_str | exact fc_unk | exact fc_fn | apply fc_s | apply fc_agg | apply fc_ta | apply fc_tup | exact fc_an | apply fc_ac | exact fc_tu | exact fc_nat | exact fc_bo | exact fc_none | apply fc_some | apply fc_pair | apply fc_row | apply fc_ef))); (all_goals exact rfl)) | ((dsimp only [Res.ef, renT, renA, renS, renN, nwN, upN, renRow, List.map_cons, List.map_nil, List.length_cons, List.length_nil]); first | done | exact rfl) | (dsimp only [setAll, List.set_cons_zero, List.set_cons_succ, List.cons_append, List.nil_append]; exact rfl) | exact rfl)) | ((first | apply Br.mk | apply Gd.mk) <;> (intro hb; first | (exact absurd hb (by decide)) | exact Bool.noConfusion (hb.symm.trans (by assumption) : true = false) | exact Bool.noConfusion (hb.symm.trans (by assumption) : false = true) | (simp only [decide_eq_true_eq, decide_eq_false_iff_not, beq_iff_eq, bne_iff_ne, beq_eq_false_iff_ne, bne_eq_false_iff_eq, Bool.not_eq_true', Bool.not_eq_false', Int.not_lt, Int.not_le, ge_iff_le, gt_iff_lt, ne_eq, Classical.not_not] at hb; first | (exfalso; omega) | skip) | skip)))); (all_goals (try (conv => whnf)))
  all_goals
    first
      | exact fin_pure rfl rfl
      | trace_state
set_option maxHeartbeats 1000000 in
set_option maxRecDepth 100000 in
theorem rewG_i3 (o n : Int) (a b c k va vb vc : Nat) (is : List Bool) (v : List Nat) (ia ib ic : Bool) (hi : is.length = 16) (hv : v.length = 16) (hvr : ∀ y ∈ v, y < 4294967296) (ha : a < 16) (hb0 : b < 16) (hc : c < 16) (hk : k < 4294967296)
    (ga : is.getD a false = ia) (gb : is.getD b false = ib) (gc : is.getD c false = ic) (ua : v.getD a 0 = va) (ub : v.getD b 0 = vb) (uc : v.getD c 0 = vc) (la : va < 4294967296) (lb : vb < 4294967296) (lc : vc < 4294967296) (hB : aluB o = true) (ho : 1 ≤ o ∧ o ≤ 13) (h1 : ib = false) (h2 : ic = true) (hI : immV o = 0) :
    Fn Try.prog 27 [.agg (Mi.C ⟨o, a, b, c, k, n⟩), .agg (knC is v)] [] (· = ⟨.a (.agg (Mi.C (rewM ⟨o, a, b, c, k, n⟩ is v))), [], []⟩) := by
  have ra := rd_is is v a hi ha
  have rb := rd_is is v b hi hb0
  have rc := rd_is is v c hi hc
  have wa := rd_val is v a hi hv ha
  have wb := rd_val is v b hi hv hb0
  have wc := rd_val is v c hi hv hc
  rw [ga] at ra
  rw [gb] at rb
  rw [gc] at rc
  rw [ua] at wa
  rw [ub] at wb
  rw [uc] at wc
  have hsc := kn_known is v
  have e : rewM ⟨o, a, b, c, k, n⟩ is v = ⟨o, a, b, c, k, n⟩ := by
    unfold rewM
    simp only [ga, gb, gc, ua, ub, uc]
    rw [if_neg (by omega), if_neg (by omega), if_neg (by rw [hB]; simp), if_neg (by rintro ⟨h, _⟩; rw [h1] at h; cases h), if_neg (by rintro ⟨h, _⟩; exact h hI)]
  rw [e]
  clear ga gb gc ua ub uc
  have har := arithG_fn o
  have h3 := threeG_fn o
  have him := immG_fn o
  subst h1
  subst h2
  rw [show thrB o = true from decide_eq_true ho] at h3
  rw [hB] at har
  rw [hI] at him
  generalize knC is v = KN at *
  refine fn_of_vc mixed tys_ok _ _ Try.func27 (by kernel_rfl) rfl Try.ntmps27 (by rw [Try.results27]) rfl ?_; dsimp only [argTm, argHl, Nat.zero_add, Nat.reduceAdd, List.length_nil, List.length_cons]
  dsimp only [Mi.C]
  (repeat' ((conv => whnf); first | (apply Sd.mk; · exact hsc)  |  ((with_reducible apply Ge.mk (α := SV)); · with_reducible first | exact ra | exact rb | exact rc | exact wa | exact wb | exact wc)  |  (refine vcall_pure (f := 34) (har) rfl ?_)  |  (refine vcall_pure (f := 35) (h3) rfl ?_)  |  (refine vcall_pure (f := 48) (him) rfl ?_) | (with_reducible apply sd_draw; · kernel_rfl) | (apply Sd.mk; · first | exact rfl | trivial | omega | (repeat' apply And.intro) <;> first | exact rfl | exact Nat.le_of_ble_eq_true rfl | omega | decide) | ((with_reducible apply Vl.mk (α := Int)); · (first | (with_reducible exact bits_keep _ _ _ _) | ((rewrite [tdiv_pos]); (focus (first | exact wi64 (by omega) (by omega) | exact wu32 (by omega) (by omega) | exact wi32 (by omega) (by omega))); omega) | exact tmod_pos (by omega) | exact wi64 (by omega) (by omega) | exact wu32 (by omega) (by omega) | exact wu32' _ | exact wu8 (by omega) (by omega) | exact wu64 (by omega) (by omega) | exact wi32 (by omega) (by omega) | rfl)) | ((with_reducible first | apply Vl.mk (α := Bool) | apply Vl.mk (α := Nat) | apply Vl.mk (α := ByteArray) | apply Ge.mk (α := Row) | apply Ge.mk (α := SV) | apply Ge.mk (α := AV)); · exact rfl) | (refine And.intro rfl ?_) | ((with_reducible first | apply Vl.mk (α := List SV) | apply Vl.mk (α := Ef) | apply Vl.mk (α := TV) | apply Ge.mk (α := List SV) | apply Sg.mk | apply Sk.mk); · (first | exact setAll_eq rfl | exact sg_all _ rfl | exact sk_all _ rfl rfl | ((first | apply sg_fc | apply sk_fc | (apply fc_eq; (conv => arg 1; whnf); apply fc_some) | apply fc_eq); (repeat' (first | exact fc_ren (wsv_scal _) | exact fc_ren (by assumption) | ((conv => arg 1; whnf); first | exact fc_nil | apply fc_cons | exact fc_int | exact fc_bool | exact fc_n | exact fc_ns | exact fc_ptr | exact fc_sl | exact fc_str | exact fc_unk | exact fc_fn | apply fc_s | apply fc_agg | apply fc_ta | apply fc_tup | exact fc_an | apply fc_ac | exact fc_tu | exact fc_nat | exact fc_bo | exact fc_none | apply fc_some | apply fc_pair | apply fc_row | apply fc_ef))); (all_goals exact rfl)) | ((dsimp only [Res.ef, renT, renA, renS, renN, nwN, upN, renRow, List.map_cons, List.map_nil, List.length_cons, List.length_nil]); first | done | exact rfl) | (dsimp only [setAll, List.set_cons_zero, List.set_cons_succ, List.cons_append, List.nil_append]; exact rfl) | exact rfl)) | ((first | apply Br.mk | apply Gd.mk) <;> (intro hb; first | (exact absurd hb (by decide)) | exact Bool.noConfusion (hb.symm.trans (by assumption) : true = false) | exact Bool.noConfusion (hb.symm.trans (by assumption) : false = true) | (simp only [decide_eq_true_eq, decide_eq_false_iff_not, beq_iff_eq, bne_iff_ne, beq_eq_false_iff_ne, bne_eq_false_iff_eq, Bool.not_eq_true', Bool.not_eq_false', Int.not_lt, Int.not_le, ge_iff_le, gt_iff_lt, ne_eq, Classical.not_not] at hb; first | (exfalso; omega) | skip) | skip)))); (all_goals (try (conv => whnf)))
  all_goals
    first
      | exact fin_pure rfl rfl
      | trace_state
set_option maxHeartbeats 1000000 in
set_option maxRecDepth 100000 in
theorem rewG_j3 (o n : Int) (a b c k va vb vc : Nat) (is : List Bool) (v : List Nat) (ia ib ic : Bool) (hi : is.length = 16) (hv : v.length = 16) (hvr : ∀ y ∈ v, y < 4294967296) (ha : a < 16) (hb0 : b < 16) (hc : c < 16) (hk : k < 4294967296)
    (ga : is.getD a false = ia) (gb : is.getD b false = ib) (gc : is.getD c false = ic) (ua : v.getD a 0 = va) (ub : v.getD b 0 = vb) (uc : v.getD c 0 = vc) (la : va < 4294967296) (lb : vb < 4294967296) (lc : vc < 4294967296) (hB : aluB o = true) (ho : 1 ≤ o ∧ o ≤ 13) (h1 : ib = false) (h2 : ic = true) (hI : immV o ≠ 0) (h : o ≠ 2) :
    Fn Try.prog 27 [.agg (Mi.C ⟨o, a, b, c, k, n⟩), .agg (knC is v)] [] (· = ⟨.a (.agg (Mi.C (rewM ⟨o, a, b, c, k, n⟩ is v))), [], []⟩) := by
  have ra := rd_is is v a hi ha
  have rb := rd_is is v b hi hb0
  have rc := rd_is is v c hi hc
  have wa := rd_val is v a hi hv ha
  have wb := rd_val is v b hi hv hb0
  have wc := rd_val is v c hi hv hc
  rw [ga] at ra
  rw [gb] at rb
  rw [gc] at rc
  rw [ua] at wa
  rw [ub] at wb
  rw [uc] at wc
  have hsc := kn_known is v
  have e : rewM ⟨o, a, b, c, k, n⟩ is v = ⟨immV o, a, b, 0, vc, n⟩ := by
    unfold rewM
    simp only [ga, gb, gc, ua, ub, uc]
    rw [if_neg (by omega), if_neg (by omega), if_neg (by rw [hB]; simp), if_neg (by rintro ⟨h, _⟩; rw [h1] at h; cases h), if_pos ⟨hI, h2⟩, if_neg h]
  rw [e]
  clear ga gb gc ua ub uc
  have har := arithG_fn o
  have h3 := threeG_fn o
  have him := immG_fn o
  subst h1
  subst h2
  rw [show thrB o = true from decide_eq_true ho] at h3
  rw [hB] at har
  generalize immV o = I at *
  generalize knC is v = KN at *
  refine fn_of_vc mixed tys_ok _ _ Try.func27 (by kernel_rfl) rfl Try.ntmps27 (by rw [Try.results27]) rfl ?_; dsimp only [argTm, argHl, Nat.zero_add, Nat.reduceAdd, List.length_nil, List.length_cons]
  dsimp only [Mi.C]
  (repeat' ((conv => whnf); first | (apply Sd.mk; · exact hsc)  |  ((with_reducible apply Ge.mk (α := SV)); · with_reducible first | exact ra | exact rb | exact rc | exact wa | exact wb | exact wc)  |  (refine vcall_pure (f := 34) (har) rfl ?_)  |  (refine vcall_pure (f := 35) (h3) rfl ?_)  |  (refine vcall_pure (f := 48) (him) rfl ?_) | (with_reducible apply sd_draw; · kernel_rfl) | (apply Sd.mk; · first | exact rfl | trivial | omega | (repeat' apply And.intro) <;> first | exact rfl | exact Nat.le_of_ble_eq_true rfl | omega | decide) | ((with_reducible apply Vl.mk (α := Int)); · (first | (with_reducible exact bits_keep _ _ _ _) | ((rewrite [tdiv_pos]); (focus (first | exact wi64 (by omega) (by omega) | exact wu32 (by omega) (by omega) | exact wi32 (by omega) (by omega))); omega) | exact tmod_pos (by omega) | exact wi64 (by omega) (by omega) | exact wu32 (by omega) (by omega) | exact wu32' _ | exact wu8 (by omega) (by omega) | exact wu64 (by omega) (by omega) | exact wi32 (by omega) (by omega) | rfl)) | ((with_reducible first | apply Vl.mk (α := Bool) | apply Vl.mk (α := Nat) | apply Vl.mk (α := ByteArray) | apply Ge.mk (α := Row) | apply Ge.mk (α := SV) | apply Ge.mk (α := AV)); · exact rfl) | (refine And.intro rfl ?_) | ((with_reducible first | apply Vl.mk (α := List SV) | apply Vl.mk (α := Ef) | apply Vl.mk (α := TV) | apply Ge.mk (α := List SV) | apply Sg.mk | apply Sk.mk); · (first | exact setAll_eq rfl | exact sg_all _ rfl | exact sk_all _ rfl rfl | ((first | apply sg_fc | apply sk_fc | (apply fc_eq; (conv => arg 1; whnf); apply fc_some) | apply fc_eq); (repeat' (first | exact fc_ren (wsv_scal _) | exact fc_ren (by assumption) | ((conv => arg 1; whnf); first | exact fc_nil | apply fc_cons | exact fc_int | exact fc_bool | exact fc_n | exact fc_ns | exact fc_ptr | exact fc_sl | exact fc_str | exact fc_unk | exact fc_fn | apply fc_s | apply fc_agg | apply fc_ta | apply fc_tup | exact fc_an | apply fc_ac | exact fc_tu | exact fc_nat | exact fc_bo | exact fc_none | apply fc_some | apply fc_pair | apply fc_row | apply fc_ef))); (all_goals exact rfl)) | ((dsimp only [Res.ef, renT, renA, renS, renN, nwN, upN, renRow, List.map_cons, List.map_nil, List.length_cons, List.length_nil]); first | done | exact rfl) | (dsimp only [setAll, List.set_cons_zero, List.set_cons_succ, List.cons_append, List.nil_append]; exact rfl) | exact rfl)) | ((first | apply Br.mk | apply Gd.mk) <;> (intro hb; first | (exact absurd hb (by decide)) | exact Bool.noConfusion (hb.symm.trans (by assumption) : true = false) | exact Bool.noConfusion (hb.symm.trans (by assumption) : false = true) | (simp only [decide_eq_true_eq, decide_eq_false_iff_not, beq_iff_eq, bne_iff_ne, beq_eq_false_iff_ne, bne_eq_false_iff_eq, Bool.not_eq_true', Bool.not_eq_false', Int.not_lt, Int.not_le, ge_iff_le, gt_iff_lt, ne_eq, Classical.not_not] at hb; first | (exfalso; omega) | skip) | skip)))); (all_goals (try (conv => whnf)))
  all_goals
    first
      | exact fin_pure rfl rfl
      | trace_state
set_option maxHeartbeats 1000000 in
set_option maxRecDepth 100000 in
theorem rewG_s3 (o n : Int) (a b c k va vb vc : Nat) (is : List Bool) (v : List Nat) (ia ib ic : Bool) (hi : is.length = 16) (hv : v.length = 16) (hvr : ∀ y ∈ v, y < 4294967296) (ha : a < 16) (hb0 : b < 16) (hc : c < 16) (hk : k < 4294967296)
    (ga : is.getD a false = ia) (gb : is.getD b false = ib) (gc : is.getD c false = ic) (ua : v.getD a 0 = va) (ub : v.getD b 0 = vb) (uc : v.getD c 0 = vc) (la : va < 4294967296) (lb : vb < 4294967296) (lc : vc < 4294967296) (hB : aluB o = true) (ho : o = 2) (h1 : ib = false) (h2 : ic = true) :
    Fn Try.prog 27 [.agg (Mi.C ⟨o, a, b, c, k, n⟩), .agg (knC is v)] [] (· = ⟨.a (.agg (Mi.C (rewM ⟨o, a, b, c, k, n⟩ is v))), [], []⟩) := by
  have ra := rd_is is v a hi ha
  have rb := rd_is is v b hi hb0
  have rc := rd_is is v c hi hc
  have wa := rd_val is v a hi hv ha
  have wb := rd_val is v b hi hv hb0
  have wc := rd_val is v c hi hv hc
  rw [ga] at ra
  rw [gb] at rb
  rw [gc] at rc
  rw [ua] at wa
  rw [ub] at wb
  rw [uc] at wc
  have hsc := kn_known is v
  have e : rewM ⟨o, a, b, c, k, n⟩ is v = ⟨16, a, b, 0, (4294967296 - vc) % 4294967296, n⟩ := by
    unfold rewM
    simp only [ga, gb, gc, ua, ub, uc]
    subst ho
    rw [if_neg (by omega), if_neg (by omega), if_neg (by rw [hB]; simp), if_neg (by rintro ⟨h, _⟩; rw [h1] at h; cases h), if_pos ⟨by decide, h2⟩, if_pos rfl]; rfl
  rw [e]
  clear ga gb gc ua ub uc
  have har := arithG_fn o
  have h3 := threeG_fn o
  have him := immG_fn o
  subst h1
  subst h2
  subst ho
  rw [hB] at har
  change Fn _ _ _ _ (· = ⟨.a (.s (.bool true)), _, _⟩) at h3
  change Fn _ _ _ _ (· = ⟨.a (.s (.int .i64 16)), _, _⟩) at him
  have q1 : IntKind.u32.wrap (0 - (vc : Int)) = (((4294967296 - vc) % 4294967296 : Nat) : Int) := by rw [wu32']; omega
  generalize knC is v = KN at *
  refine fn_of_vc mixed tys_ok _ _ Try.func27 (by kernel_rfl) rfl Try.ntmps27 (by rw [Try.results27]) rfl ?_; dsimp only [argTm, argHl, Nat.zero_add, Nat.reduceAdd, List.length_nil, List.length_cons]
  dsimp only [Mi.C]
  (repeat' ((conv => whnf); first | (apply Sd.mk; · exact hsc)  |  ((with_reducible apply Ge.mk (α := SV)); · with_reducible first | exact ra | exact rb | exact rc | exact wa | exact wb | exact wc)  |  ((with_reducible apply Vl.mk (α := Int)); · with_reducible exact q1)  |  (refine vcall_pure (f := 34) (har) rfl ?_)  |  (refine vcall_pure (f := 35) (h3) rfl ?_)  |  (refine vcall_pure (f := 48) (him) rfl ?_) | (with_reducible apply sd_draw; · kernel_rfl) | (apply Sd.mk; · first | exact rfl | trivial | omega | (repeat' apply And.intro) <;> first | exact rfl | exact Nat.le_of_ble_eq_true rfl | omega | decide) | ((with_reducible apply Vl.mk (α := Int)); · (first | (with_reducible exact bits_keep _ _ _ _) | ((rewrite [tdiv_pos]); (focus (first | exact wi64 (by omega) (by omega) | exact wu32 (by omega) (by omega) | exact wi32 (by omega) (by omega))); omega) | exact tmod_pos (by omega) | exact wi64 (by omega) (by omega) | exact wu32 (by omega) (by omega) | exact wu32' _ | exact wu8 (by omega) (by omega) | exact wu64 (by omega) (by omega) | exact wi32 (by omega) (by omega) | rfl)) | ((with_reducible first | apply Vl.mk (α := Bool) | apply Vl.mk (α := Nat) | apply Vl.mk (α := ByteArray) | apply Ge.mk (α := Row) | apply Ge.mk (α := SV) | apply Ge.mk (α := AV)); · exact rfl) | (refine And.intro rfl ?_) | ((with_reducible first | apply Vl.mk (α := List SV) | apply Vl.mk (α := Ef) | apply Vl.mk (α := TV) | apply Ge.mk (α := List SV) | apply Sg.mk | apply Sk.mk); · (first | exact setAll_eq rfl | exact sg_all _ rfl | exact sk_all _ rfl rfl | ((first | apply sg_fc | apply sk_fc | (apply fc_eq; (conv => arg 1; whnf); apply fc_some) | apply fc_eq); (repeat' (first | exact fc_ren (wsv_scal _) | exact fc_ren (by assumption) | ((conv => arg 1; whnf); first | exact fc_nil | apply fc_cons | exact fc_int | exact fc_bool | exact fc_n | exact fc_ns | exact fc_ptr | exact fc_sl | exact fc_str | exact fc_unk | exact fc_fn | apply fc_s | apply fc_agg | apply fc_ta | apply fc_tup | exact fc_an | apply fc_ac | exact fc_tu | exact fc_nat | exact fc_bo | exact fc_none | apply fc_some | apply fc_pair | apply fc_row | apply fc_ef))); (all_goals exact rfl)) | ((dsimp only [Res.ef, renT, renA, renS, renN, nwN, upN, renRow, List.map_cons, List.map_nil, List.length_cons, List.length_nil]); first | done | exact rfl) | (dsimp only [setAll, List.set_cons_zero, List.set_cons_succ, List.cons_append, List.nil_append]; exact rfl) | exact rfl)) | ((first | apply Br.mk | apply Gd.mk) <;> (intro hb; first | (exact absurd hb (by decide)) | exact Bool.noConfusion (hb.symm.trans (by assumption) : true = false) | exact Bool.noConfusion (hb.symm.trans (by assumption) : false = true) | (simp only [decide_eq_true_eq, decide_eq_false_iff_not, beq_iff_eq, bne_iff_ne, beq_eq_false_iff_ne, bne_eq_false_iff_eq, Bool.not_eq_true', Bool.not_eq_false', Int.not_lt, Int.not_le, ge_iff_le, gt_iff_lt, ne_eq, Classical.not_not] at hb; first | (exfalso; omega) | skip) | skip)))); (all_goals (try (conv => whnf)))
  all_goals
    first
      | exact fin_pure rfl rfl
      | trace_state
end Go.Proofs.Ytpkbfpjkpiimiaa
