/- BlockMay of the reference, of any block. -/
import Derived.Test.YtppjiheebpabjaaMayC
namespace Go.Proofs.Ytppjiheebpabjaa
open Go Go.RowKit
set_option linter.unusedSimpArgs false
set_option linter.unusedVariables false

theorem btl_loop (b : ByteArray) (i : Nat) (r : List UInt8) : ByteArray.toList.loop b i r = r.reverse ++ b.data.toList.drop i := by
  fun_induction ByteArray.toList.loop b i r with
  | case1 i r h ih =>
    rw [ih]
    have : i < b.data.toList.length := by simpa using h
    rw [List.drop_eq_getElem_cons this]
    simp
    exact getElem!_pos b.data i h
  | case2 i r h =>
    rw [List.drop_eq_nil_of_le (by simpa using h)]; simp
theorem btl (b : ByteArray) : b.toList = b.data.toList := by
  unfold ByteArray.toList; rw [btl_loop]; simp
theorem mnV_iff (o : Int) : ((mnV o).toList = (⟨#[]⟩ : ByteArray).toList) ↔ useOk o = false := by
  rw [btl, btl]
  constructor
  · intro h
    cases hu : useOk o with
    | false => rfl
    | true =>
      have h2 := mnV_ne o hu
      refine absurd ?_ h2
      have h3 : (mnV o).data = #[] := Array.toList_inj.1 h
      generalize mnV o = V at *
      cases V
      dsimp only at h3
      rw [h3]
  · intro h; rw [mnV_no o h]
theorem okM_n {m : Mz} {b : Bool} (h : okM m b = true) : 1 ≤ m.n ∧ m.n ≤ 16 := by
  unfold okM at h
  simp only [Bool.and_eq_true, decide_eq_true_eq] at h
  omega
theorem maySum_len : ∀ (l : List Mz) (s L : Int), maySum l s = some L → s + l.length ≤ L
  | [], s, L, h => by injection h with h; subst h; simp
  | m :: l, s, L, h => by
    unfold maySum at h
    split at h
    · rename_i ho
      have := maySum_len l _ _ h
      have := okM_n ho
      rw [List.length_cons]; omega
    · cases h
theorem mayV_len {A : Nat} {L : Int} {l : List Mz} (h : l.length < 1 ∨ 16 < l.length) : mayV A L l = false := by
  cases hc : mayV A L l with
  | false => rfl
  | true =>
    exfalso
    unfold mayV hdB at hc
    simp only [Bool.and_eq_true, decide_eq_true_eq, beq_iff_eq] at hc
    have := maySum_len l 0 L hc.2
    rcases h with h | h
    · have : l = [] := List.length_eq_zero_iff.1 (by omega)
      subst this
      have := hc.2
      injection this with this
      omega
    · omega
set_option maxRecDepth 100000 in
theorem b14reg_fn (r : Int) : Fn Try.prog 43 [.s (.int .i64 r)] [] (· = ⟨.a (.s (.bool (rgB r))), [], []⟩) := by
  refine fn_of_vc mixed tys_ok _ _ Try.func43 (by kernel_rfl) rfl Try.ntmps43 (by rw [Try.results43]) rfl ?_; dsimp only [argTm, argHl, Nat.zero_add, Nat.reduceAdd, List.length_nil, List.length_cons]
  (repeat' ((conv => whnf); first | (with_reducible apply sd_draw; · kernel_rfl) | (apply Sd.mk; · first | exact rfl | trivial | omega | (repeat' apply And.intro) <;> first | exact rfl | exact Nat.le_of_ble_eq_true rfl | omega | decide) | ((with_reducible apply Vl.mk (α := Int)); · (first | (with_reducible exact bits_keep _ _ _ _) | ((rewrite [tdiv_pos]); (focus (first | exact wi64 (by omega) (by omega) | exact wu32 (by omega) (by omega) | exact wi32 (by omega) (by omega))); omega) | exact tmod_pos (by omega) | exact wi64 (by omega) (by omega) | exact wu32 (by omega) (by omega) | exact wu32' _ | exact wu8 (by omega) (by omega) | exact wu64 (by omega) (by omega) | exact wi32 (by omega) (by omega) | rfl)) | ((with_reducible first | apply Vl.mk (α := Bool) | apply Vl.mk (α := Nat) | apply Vl.mk (α := ByteArray) | apply Ge.mk (α := Row) | apply Ge.mk (α := SV) | apply Ge.mk (α := AV)); · exact rfl) | (refine And.intro rfl ?_) | ((with_reducible first | apply Vl.mk (α := List SV) | apply Vl.mk (α := Ef) | apply Vl.mk (α := TV) | apply Ge.mk (α := List SV) | apply Sg.mk | apply Sk.mk); · (first | exact setAll_eq rfl | exact sg_all _ rfl | exact sk_all _ rfl rfl | ((first | apply sg_fc | apply sk_fc | (apply fc_eq; (conv => arg 1; whnf); apply fc_some) | apply fc_eq); (repeat' (first | exact fc_ren (wsv_scal _) | exact fc_ren (by assumption) | ((conv => arg 1; whnf); first | exact fc_nil | apply fc_cons | exact fc_int | exact fc_bool | exact fc_n | exact fc_ns | exact fc_ptr | exact fc_sl | exact fc_str | exact fc_unk | exact fc_fn | apply fc_s | apply fc_agg | apply fc_ta | apply fc_tup | exact fc_an | apply fc_ac | exact fc_tu | exact fc_nat | exact fc_bo | exact fc_none | apply fc_some | apply fc_pair | apply fc_row | apply fc_ef))); (all_goals exact rfl)) | ((dsimp only [Res.ef, renT, renA, renS, renN, nwN, upN, renRow, List.map_cons, List.map_nil, List.length_cons, List.length_nil]); first | done | exact rfl) | (dsimp only [setAll, List.set_cons_zero, List.set_cons_succ, List.cons_append, List.nil_append]; exact rfl) | exact rfl)) | ((first | apply Br.mk | apply Gd.mk) <;> (intro hb; first | (exact absurd hb (by decide)) | exact Bool.noConfusion (hb.symm.trans (by assumption) : true = false) | exact Bool.noConfusion (hb.symm.trans (by assumption) : false = true) | (simp only [decide_eq_true_eq, decide_eq_false_iff_not, beq_iff_eq, bne_iff_ne, beq_eq_false_iff_ne, bne_eq_false_iff_eq, Bool.not_eq_true', Bool.not_eq_false', Int.not_lt, Int.not_le, ge_iff_le, gt_iff_lt, ne_eq, Classical.not_not] at hb; first | (exfalso; omega) | skip) | skip)))); (all_goals (try (conv => whnf)))
  all_goals (refine fin_pure rfl ?_; simp only [mkRes]; congr 3; grind [rgB])
def bmays (N A : Nat) (L : Int) (LL : List SV) (i : Nat) (s : Int) : St :=
  ⟨[(1, .a (.s (.ptr 1 0))), (3, .a (.s (.int .i64 s))), (4, .a (.s (.int .i64 i)))],
   [(0, some ⟨false, 6, LL⟩), (1, some ⟨true, 1, [.int .u32 A, .int .i64 L, .sl 0 0 N]⟩)], [0]⟩
set_option maxHeartbeats 600000 in
set_option maxRecDepth 100000 in
theorem bmay_fn (A : Nat) (hA : A < 4294967296) (L : Int) (l : List Mz) (N : Nat) (hN : l.length = N) (hN2 : N ≤ 1000000) :
    Fn Try.prog 23 [.agg [.int .u32 A, .int .i64 L, .sl 0 0 N]] [⟨false, 6, mzs l⟩] (· = ⟨.a (.s (.bool (mayV A L l))), [], []⟩) := by
  have hsc := mzs_scal l
  have hLl := mzs_len l
  have h4 : ∀ x : Int, (x = (A : Int) % 4) → (x = 0 ↔ A % 4 = 0) := fun x hx => by omega
  generalize hLL : mzs l = LL at *
  have q4 : 1 ≤ L → L ≤ 16 → IntKind.i64.wrap ((A : Int) % 128 / 4 + L) = (A : Int) % 128 / 4 + L := fun h1 h2 => wi64 (by omega) (by omega)
  refine fn_of_vc mixed tys_ok _ _ Try.func23 (by kernel_rfl) rfl Try.ntmps23 (by rw [Try.results23]) rfl ?_; dsimp only [argTm, argHl, Nat.zero_add, Nat.reduceAdd, List.length_nil, List.length_cons]
  (repeat' ((conv => whnf); first | ((with_reducible apply Vl.mk (α := Int)); · with_reducible exact q4 (by omega) (by omega)) | (with_reducible apply sd_draw; · kernel_rfl) | (apply Sd.mk; · first | exact rfl | trivial | omega | (repeat' apply And.intro) <;> first | exact rfl | exact Nat.le_of_ble_eq_true rfl | omega | decide) | ((with_reducible apply Vl.mk (α := Int)); · (first | (with_reducible exact bits_keep _ _ _ _) | ((rewrite [tdiv_pos]); (focus (first | exact wi64 (by omega) (by omega) | exact wu32 (by omega) (by omega) | exact wi32 (by omega) (by omega))); omega) | exact tmod_pos (by omega) | exact wi64 (by omega) (by omega) | exact wu32 (by omega) (by omega) | exact wu32' _ | exact wu8 (by omega) (by omega) | exact wu64 (by omega) (by omega) | exact wi32 (by omega) (by omega) | rfl)) | ((with_reducible first | apply Vl.mk (α := Bool) | apply Vl.mk (α := Nat) | apply Vl.mk (α := ByteArray) | apply Ge.mk (α := Row) | apply Ge.mk (α := SV) | apply Ge.mk (α := AV)); · exact rfl) | (refine And.intro rfl ?_) | ((with_reducible first | apply Vl.mk (α := List SV) | apply Vl.mk (α := Ef) | apply Vl.mk (α := TV) | apply Ge.mk (α := List SV) | apply Sg.mk | apply Sk.mk); · (first | exact setAll_eq rfl | exact sg_all _ rfl | exact sk_all _ rfl rfl | ((first | apply sg_fc | apply sk_fc | (apply fc_eq; (conv => arg 1; whnf); apply fc_some) | apply fc_eq); (repeat' (first | exact fc_ren (wsv_scal _) | exact fc_ren (by assumption) | ((conv => arg 1; whnf); first | exact fc_nil | apply fc_cons | exact fc_int | exact fc_bool | exact fc_n | exact fc_ns | exact fc_ptr | exact fc_sl | exact fc_str | exact fc_unk | exact fc_fn | apply fc_s | apply fc_agg | apply fc_ta | apply fc_tup | exact fc_an | apply fc_ac | exact fc_tu | exact fc_nat | exact fc_bo | exact fc_none | apply fc_some | apply fc_pair | apply fc_row | apply fc_ef))); (all_goals exact rfl)) | ((dsimp only [Res.ef, renT, renA, renS, renN, nwN, upN, renRow, List.map_cons, List.map_nil, List.length_cons, List.length_nil]); first | done | exact rfl) | (dsimp only [setAll, List.set_cons_zero, List.set_cons_succ, List.cons_append, List.nil_append]; exact rfl) | exact rfl)) | ((first | apply Br.mk | apply Gd.mk) <;> (intro hb; first | (exact absurd hb (by decide)) | exact Bool.noConfusion (hb.symm.trans (by assumption) : true = false) | exact Bool.noConfusion (hb.symm.trans (by assumption) : false = true) | (simp only [decide_eq_true_eq, decide_eq_false_iff_not, beq_iff_eq, bne_iff_ne, beq_eq_false_iff_ne, bne_eq_false_iff_eq, Bool.not_eq_true', Bool.not_eq_false', Int.not_lt, Int.not_le, ge_iff_le, gt_iff_lt, ne_eq, Classical.not_not] at hb; first | (exfalso; omega) | skip) | skip)))); (all_goals (try (conv => whnf)))
  · first | (rw [mayV_hd (by omega)]; (apply Fin.mk (m := [(0, some 0)]); (focus exact rfl); (all_goals ((try (show HlS _ _ [] _)); first | ((repeat' (first | exact SVsM.nil | exact avsm_nil | exact svm_same rfl | exact svm_ptr rfl | exact svm_sl rfl | exact svm_slnil rfl | exact svsm_scal rfl | exact svsm_scal (wsv_scal _) | exact svsm_scal (by assumption) | exact hls_nil | apply SVsM.cons | apply tvm_a | apply tvm_tup | apply avm_agg | apply avm_s | apply avsm_cons | exact trivial | (refine hls_skip rfl ?_) | apply hls_none | apply hls_row | (refine rowmt_mk rfl rfl rfl rfl ?_) | exact rowmt_nil rfl rfl)); done) | exact rfl)))) | (rw [mayV_len (by omega)]; (apply Fin.mk (m := [(0, some 0)]); (focus exact rfl); (all_goals ((try (show HlS _ _ [] _)); first | ((repeat' (first | exact SVsM.nil | exact avsm_nil | exact svm_same rfl | exact svm_ptr rfl | exact svm_sl rfl | exact svm_slnil rfl | exact svsm_scal rfl | exact svsm_scal (wsv_scal _) | exact svsm_scal (by assumption) | exact hls_nil | apply SVsM.cons | apply tvm_a | apply tvm_tup | apply avm_agg | apply avm_s | apply avsm_cons | exact trivial | (refine hls_skip rfl ?_) | apply hls_none | apply hls_row | (refine rowmt_mk rfl rfl rfl rfl ?_) | exact rowmt_nil rfl rfl)); done) | exact rfl))))
  · refine Lp.inv (fun mm σ => ∃ (i : Nat) (s : Int), mm + i = N ∧ 0 ≤ s ∧ s ≤ 16 * i ∧ maySum (l.drop i) s = maySum l 0 ∧ σ = bmays N A L LL i s) ?_ ?_
    · refine ⟨N, bmays N A L LL 0 0, ?_, 0, 0, by omega, by omega, by omega, rfl, rfl⟩
      apply wk_of (m := [(0, some 0), (1, some 65536)])
      · repeat' (first | exact tml_nil | apply tml_cons)
        all_goals first | exact tvm_a (avm_s (svm_same rfl)) | exact tvm_a (avm_s (svm_ptr rfl)) | exact tvm_a (avm_s (svm_sl rfl))
      · show HlS _ _ [] _
        refine hls_row (rowmt_mk rfl rfl rfl rfl (svsm_scal hsc)) ?_
        refine hls_row (rowmt_mk rfl rfl rfl rfl (.cons (svm_same rfl) (.cons (svm_same rfl) (.cons (svm_sl rfl) .nil)))) ?_
        exact hls_nil
      · rfl
    · rintro mm σ ⟨i, s, hmi, hs0, hs1, hinv, rfl⟩
      unfold bmays
      by_cases hiN : i < N
      · obtain ⟨⟨o, a, b, c, k, n⟩, hm⟩ : ∃ m, l[i]? = some m := ⟨l[i]'(by omega), List.getElem?_eq_getElem (by omega)⟩
        have hd : l.drop i = ⟨o, a, b, c, k, n⟩ :: l.drop (i + 1) := by
          have hlt := (List.getElem?_eq_some_iff.1 hm).1
          rw [List.drop_eq_getElem_cons hlt]
          congr 1
          exact (List.getElem?_eq_some_iff.1 hm).2
        have hie : (l.drop (i + 1)).isEmpty = decide (i + 1 = N) := by
          rw [Bool.eq_iff_iff, List.isEmpty_iff, List.drop_eq_nil_iff, decide_eq_true_eq]; omega
        have hst : ∀ okb, okM ⟨o, a, b, c, k, n⟩ (decide (i + 1 = N)) = okb → maySum l 0 = if okb = true then maySum (l.drop (i + 1)) (s + n) else none := fun okb h => by
          rw [← hinv, hd, maySum, hie, h]
        have hok : okM ⟨o, a, b, c, k, n⟩ (decide (i + 1 = N)) = (useOk o && decide (1 ≤ n) && decide (n ≤ 16) && rgB a && rgB b && rgB c && (decide (i + 1 = N) || !endsB o)) := rfl
        generalize okM ⟨o, a, b, c, k, n⟩ (decide (i + 1 = N)) = okb at *
        replace hst := hst _ rfl
        have seg := mzs_seg l i _ hm
        have q1 : 1 ≤ n → n ≤ 16 → IntKind.i64.wrap (s + n) = s + n := fun h1 h2 => wi64 (by omega) (by omega)
        have q2 : IntKind.i64.wrap ((i : Int) + 1) = ((i + 1 : Nat) : Int) := by rw [wi64 (by omega) (by omega)]; omega
        have q2' : IntKind.i64.wrap ((i : Int) + 1) = (i : Int) + 1 := wi64 (by omega) (by omega)
        have x1 : 0 + ((i : Nat) : Int).toNat * ty39.size = i * 6 := by show 0 + ((i : Nat) : Int).toNat * 6 = _; omega
        have cv := mn_fn o
        have hv := mnV_iff o
        have ca := b14reg_fn a
        have cb := b14reg_fn b
        have cc := b14reg_fn c
        have ce := rends_fn o
        dsimp only [Mz.C] at seg
        rw [hLL] at seg
        generalize hU : useOk o = U at *
        generalize mnV o = V at *
        generalize hE : endsB o = E at *
        generalize hra : rgB a = ra at *
        generalize hrb : rgB b = rb at *
        generalize hrc : rgB c = rc at *
        (repeat' ((conv => whnf); first | ((with_reducible apply Vl.mk (α := Int)); · with_reducible first | exact q2' | exact q1 (by omega) (by omega) | exact q2)  |  ((with_reducible apply Vl.mk (α := Nat)); · with_reducible exact x1)  |  (apply Sg.mk; · exact seg)  |  (refine vcall_pure (f := 42) (cv) rfl ?_)  |  (refine vcall_pure (f := 43) (ca) rfl ?_)  |  (refine vcall_pure (f := 43) (cb) rfl ?_)  |  (refine vcall_pure (f := 43) (cc) rfl ?_)  |  (refine vcall_pure (f := 41) (ce) rfl ?_) | (with_reducible apply sd_draw; · kernel_rfl) | (apply Sd.mk; · first | exact rfl | trivial | omega | (repeat' apply And.intro) <;> first | exact rfl | exact Nat.le_of_ble_eq_true rfl | omega | decide) | ((with_reducible apply Vl.mk (α := Int)); · (first | (with_reducible exact bits_keep _ _ _ _) | ((rewrite [tdiv_pos]); (focus (first | exact wi64 (by omega) (by omega) | exact wu32 (by omega) (by omega) | exact wi32 (by omega) (by omega))); omega) | exact tmod_pos (by omega) | exact wi64 (by omega) (by omega) | exact wu32 (by omega) (by omega) | exact wu32' _ | exact wu8 (by omega) (by omega) | exact wu64 (by omega) (by omega) | exact wi32 (by omega) (by omega) | rfl)) | ((with_reducible first | apply Vl.mk (α := Bool) | apply Vl.mk (α := Nat) | apply Vl.mk (α := ByteArray) | apply Ge.mk (α := Row) | apply Ge.mk (α := SV) | apply Ge.mk (α := AV)); · exact rfl) | (refine And.intro rfl ?_) | ((with_reducible first | apply Vl.mk (α := List SV) | apply Vl.mk (α := Ef) | apply Vl.mk (α := TV) | apply Ge.mk (α := List SV) | apply Sg.mk | apply Sk.mk); · (first | exact setAll_eq rfl | exact sg_all _ rfl | exact sk_all _ rfl rfl | ((first | apply sg_fc | apply sk_fc | (apply fc_eq; (conv => arg 1; whnf); apply fc_some) | apply fc_eq); (repeat' (first | exact fc_ren (wsv_scal _) | exact fc_ren (by assumption) | ((conv => arg 1; whnf); first | exact fc_nil | apply fc_cons | exact fc_int | exact fc_bool | exact fc_n | exact fc_ns | exact fc_ptr | exact fc_sl | exact fc_str | exact fc_unk | exact fc_fn | apply fc_s | apply fc_agg | apply fc_ta | apply fc_tup | exact fc_an | apply fc_ac | exact fc_tu | exact fc_nat | exact fc_bo | exact fc_none | apply fc_some | apply fc_pair | apply fc_row | apply fc_ef))); (all_goals exact rfl)) | ((dsimp only [Res.ef, renT, renA, renS, renN, nwN, upN, renRow, List.map_cons, List.map_nil, List.length_cons, List.length_nil]); first | done | exact rfl) | (dsimp only [setAll, List.set_cons_zero, List.set_cons_succ, List.cons_append, List.nil_append]; exact rfl) | exact rfl)) | ((first | apply Br.mk | apply Gd.mk) <;> (intro hb; first | (exact absurd hb (by decide)) | exact Bool.noConfusion (hb.symm.trans (by assumption) : true = false) | exact Bool.noConfusion (hb.symm.trans (by assumption) : false = true) | (simp only [decide_eq_true_eq, decide_eq_false_iff_not, beq_iff_eq, bne_iff_ne, beq_eq_false_iff_ne, bne_eq_false_iff_eq, Bool.not_eq_true', Bool.not_eq_false', Int.not_lt, Int.not_le, ge_iff_le, gt_iff_lt, ne_eq, Classical.not_not] at hb; first | (exfalso; omega) | skip) | skip)))); (all_goals (try (conv => whnf)))
        all_goals first
          | (rw [mayV_sum ⟨by omega, by omega, by omega, by omega⟩, hst, if_neg (by rw [hok]; grind), show ((none : Option Int) == some L) = false from rfl]
             (apply Fin.mk (m := [(0, some 0)]); (focus exact rfl); (all_goals ((try (show HlS _ _ [] _)); first | ((repeat' (first | exact SVsM.nil | exact avsm_nil | exact svm_same rfl | exact svm_ptr rfl | exact svm_sl rfl | exact svm_slnil rfl | exact svsm_scal rfl | exact svsm_scal (wsv_scal _) | exact svsm_scal (by assumption) | exact hls_nil | apply SVsM.cons | apply tvm_a | apply tvm_tup | apply avm_agg | apply avm_s | apply avsm_cons | exact trivial | (refine hls_skip rfl ?_) | apply hls_none | apply hls_row | (refine rowmt_mk rfl rfl rfl rfl ?_) | exact rowmt_nil rfl rfl)); done) | exact rfl))))
          | (refine ⟨mm - 1, bmays N A L LL (i + 1) (s + n), by omega, ?_, i + 1, s + n, by omega, by omega, by omega, by rw [hst, if_pos (by rw [hok]; grind)], rfl⟩
             apply wk_of (m := [(0, some 0), (1, some 1)])
             · repeat' (first | exact tml_nil | apply tml_cons)
               all_goals first | exact tvm_a (avm_s (svm_same rfl)) | exact tvm_a (avm_s (svm_ptr rfl)) | exact tvm_a (avm_s (svm_sl rfl))
             · show HlS _ _ [] _
               refine hls_row (rowmt_mk rfl rfl rfl rfl (svsm_scal hsc)) ?_
               refine hls_row (rowmt_mk rfl rfl rfl rfl (.cons (svm_same rfl) (.cons (svm_same rfl) (.cons (svm_sl rfl) .nil)))) ?_
               exact hls_nil
             · rfl)
          | trace_state
      · have hdn : l.drop i = [] := List.drop_eq_nil_of_le (by omega)
        have hst : maySum l 0 = some s := by rw [← hinv, hdn]; rfl
        rw [mayV_sum ⟨by omega, by omega, by omega, by omega⟩, hst]
        (repeat' ((conv => whnf); first | (with_reducible apply sd_draw; · kernel_rfl) | (apply Sd.mk; · first | exact rfl | trivial | omega | (repeat' apply And.intro) <;> first | exact rfl | exact Nat.le_of_ble_eq_true rfl | omega | decide) | ((with_reducible apply Vl.mk (α := Int)); · (first | (with_reducible exact bits_keep _ _ _ _) | ((rewrite [tdiv_pos]); (focus (first | exact wi64 (by omega) (by omega) | exact wu32 (by omega) (by omega) | exact wi32 (by omega) (by omega))); omega) | exact tmod_pos (by omega) | exact wi64 (by omega) (by omega) | exact wu32 (by omega) (by omega) | exact wu32' _ | exact wu8 (by omega) (by omega) | exact wu64 (by omega) (by omega) | exact wi32 (by omega) (by omega) | rfl)) | ((with_reducible first | apply Vl.mk (α := Bool) | apply Vl.mk (α := Nat) | apply Vl.mk (α := ByteArray) | apply Ge.mk (α := Row) | apply Ge.mk (α := SV) | apply Ge.mk (α := AV)); · exact rfl) | (refine And.intro rfl ?_) | ((with_reducible first | apply Vl.mk (α := List SV) | apply Vl.mk (α := Ef) | apply Vl.mk (α := TV) | apply Ge.mk (α := List SV) | apply Sg.mk | apply Sk.mk); · (first | exact setAll_eq rfl | exact sg_all _ rfl | exact sk_all _ rfl rfl | ((first | apply sg_fc | apply sk_fc | (apply fc_eq; (conv => arg 1; whnf); apply fc_some) | apply fc_eq); (repeat' (first | exact fc_ren (wsv_scal _) | exact fc_ren (by assumption) | ((conv => arg 1; whnf); first | exact fc_nil | apply fc_cons | exact fc_int | exact fc_bool | exact fc_n | exact fc_ns | exact fc_ptr | exact fc_sl | exact fc_str | exact fc_unk | exact fc_fn | apply fc_s | apply fc_agg | apply fc_ta | apply fc_tup | exact fc_an | apply fc_ac | exact fc_tu | exact fc_nat | exact fc_bo | exact fc_none | apply fc_some | apply fc_pair | apply fc_row | apply fc_ef))); (all_goals exact rfl)) | ((dsimp only [Res.ef, renT, renA, renS, renN, nwN, upN, renRow, List.map_cons, List.map_nil, List.length_cons, List.length_nil]); first | done | exact rfl) | (dsimp only [setAll, List.set_cons_zero, List.set_cons_succ, List.cons_append, List.nil_append]; exact rfl) | exact rfl)) | ((first | apply Br.mk | apply Gd.mk) <;> (intro hb; first | (exact absurd hb (by decide)) | exact Bool.noConfusion (hb.symm.trans (by assumption) : true = false) | exact Bool.noConfusion (hb.symm.trans (by assumption) : false = true) | (simp only [decide_eq_true_eq, decide_eq_false_iff_not, beq_iff_eq, bne_iff_ne, beq_eq_false_iff_ne, bne_eq_false_iff_eq, Bool.not_eq_true', Bool.not_eq_false', Int.not_lt, Int.not_le, ge_iff_le, gt_iff_lt, ne_eq, Classical.not_not] at hb; first | (exfalso; omega) | skip) | skip)))); (all_goals (try (conv => whnf)))
        all_goals first | ((apply Fin.mk (m := [(0, some 0)]); (focus exact rfl); (all_goals ((try (show HlS _ _ [] _)); first | ((repeat' (first | exact SVsM.nil | exact avsm_nil | exact svm_same rfl | exact svm_ptr rfl | exact svm_sl rfl | exact svm_slnil rfl | exact svsm_scal rfl | exact svsm_scal (wsv_scal _) | exact svsm_scal (by assumption) | exact hls_nil | apply SVsM.cons | apply tvm_a | apply tvm_tup | apply avm_agg | apply avm_s | apply avsm_cons | exact trivial | (refine hls_skip rfl ?_) | apply hls_none | apply hls_row | (refine rowmt_mk rfl rfl rfl rfl ?_) | exact rowmt_nil rfl rfl)); done) | exact rfl)))) | trace_state
  all_goals first | (first | (rw [mayV_hd (by omega)]; (apply Fin.mk (m := [(0, some 0)]); (focus exact rfl); (all_goals ((try (show HlS _ _ [] _)); first | ((repeat' (first | exact SVsM.nil | exact avsm_nil | exact svm_same rfl | exact svm_ptr rfl | exact svm_sl rfl | exact svm_slnil rfl | exact svsm_scal rfl | exact svsm_scal (wsv_scal _) | exact svsm_scal (by assumption) | exact hls_nil | apply SVsM.cons | apply tvm_a | apply tvm_tup | apply avm_agg | apply avm_s | apply avsm_cons | exact trivial | (refine hls_skip rfl ?_) | apply hls_none | apply hls_row | (refine rowmt_mk rfl rfl rfl rfl ?_) | exact rowmt_nil rfl rfl)); done) | exact rfl)))) | (rw [mayV_len (by omega)]; (apply Fin.mk (m := [(0, some 0)]); (focus exact rfl); (all_goals ((try (show HlS _ _ [] _)); first | ((repeat' (first | exact SVsM.nil | exact avsm_nil | exact svm_same rfl | exact svm_ptr rfl | exact svm_sl rfl | exact svm_slnil rfl | exact svsm_scal rfl | exact svsm_scal (wsv_scal _) | exact svsm_scal (by assumption) | exact hls_nil | apply SVsM.cons | apply tvm_a | apply tvm_tup | apply avm_agg | apply avm_s | apply avsm_cons | exact trivial | (refine hls_skip rfl ?_) | apply hls_none | apply hls_row | (refine rowmt_mk rfl rfl rfl rfl ?_) | exact rowmt_nil rfl rfl)); done) | exact rfl))))) | trace_state
end Go.Proofs.Ytppjiheebpabjaa
