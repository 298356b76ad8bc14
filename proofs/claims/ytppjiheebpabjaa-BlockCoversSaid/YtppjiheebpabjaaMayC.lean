/- block.May of any block. -/
import Derived.Test.YtppjiheebpabjaaMayB
import Derived.Test.YtppjiheebpabjaaMiA
namespace Go.Proofs.Ytppjiheebpabjaa
open Go Go.RowKit
set_option linter.unusedSimpArgs false
set_option linter.unusedVariables false

/-- An operation with any numbers; its cells. -/
structure Mz where
  (o a b c : Int) (k : Nat) (n : Int)
def Mz.C (m : Mz) : List SV := [.int .i64 m.o, .int .i64 m.a, .int .i64 m.b, .int .i64 m.c, .int .u32 m.k, .int .i64 m.n]
def mzs : List Mz → List SV
  | [] => []
  | m :: l => m.C ++ mzs l
theorem mzs_len : ∀ l : List Mz, (mzs l).length = l.length * 6
  | [] => rfl
  | m :: l => by show (m.C ++ mzs l).length = _; rw [List.length_append, mzs_len l]; simp [Mz.C]; omega
theorem mzs_scal : ∀ l : List Mz, allScal (mzs l) = true
  | [] => rfl
  | m :: l => mzs_scal l
theorem mzs_known : ∀ l : List Mz, allKnown (mzs l) = true
  | [] => rfl
  | m :: l => mzs_known l
theorem mzs_at : ∀ (l : List Mz) (j : Nat) (m : Mz), l[j]? = some m → ∀ i, i < 6 → (mzs l)[j * 6 + i]? = (m.C)[i]?
  | m' :: l, 0, m, h, i, hi => by
    injection h with h; subst h
    show (m'.C ++ mzs l)[0 * 6 + i]? = _
    rw [Nat.zero_mul, Nat.zero_add, List.getElem?_append_left (by simp [Mz.C]; omega)]
  | m' :: l, j + 1, m, h, i, hi => by
    show (m'.C ++ mzs l)[(j + 1) * 6 + i]? = _
    rw [List.getElem?_append_right (by simp [Mz.C]; omega)]
    have : (j + 1) * 6 + i - (m'.C).length = j * 6 + i := by simp [Mz.C]; omega
    rw [this]
    exact mzs_at l j m (by simpa using h) i hi
theorem mzs_seg (l : List Mz) (j : Nat) (m : Mz) (h : l[j]? = some m) : (m.C).length = 6 ∧ ∀ (i : Nat) s, (m.C)[i]? = some s → (mzs l)[j * 6 + i]? = some s :=
  ⟨rfl, fun i s hs => by
    have hi : i < 6 := (List.getElem?_eq_some_iff.1 hs).1
    rw [mzs_at l j m h i hi]; exact hs⟩
def Mi.z (m : Mi) : Mz := ⟨m.o, m.a, m.b, m.c, m.k, m.n⟩
theorem mzs_mcs : ∀ l : List Mi, mzs (l.map Mi.z) = mcs l
  | [] => rfl
  | m :: l => by show Mz.C _ ++ mzs (l.map Mi.z) = Mi.C m ++ mcs l; rw [mzs_mcs l]; rfl
/-- An operation that may stand; the sum of the numbers, if all may. -/
def okM (m : Mz) (last : Bool) : Bool := useOk m.o && decide (1 ≤ m.n) && decide (m.n ≤ 16) && rgB m.a && rgB m.b && rgB m.c && (last || !endsB m.o)
def maySum : List Mz → Int → Option Int
  | [], s => some s
  | m :: l, s => if okM m l.isEmpty = true then maySum l (s + m.n) else none
def hdB (A : Nat) (L : Int) : Bool := decide (A % 4 = 0 ∧ 1 ≤ L ∧ L ≤ 16 ∧ L ≤ 32 - (A : Int) % 128 / 4)
def mayV (A : Nat) (L : Int) (l : List Mz) : Bool := hdB A L && (maySum l 0 == some L)
theorem mayV_hd {A : Nat} {L : Int} {l : List Mz} (h : ¬ (A % 4 = 0 ∧ 1 ≤ L ∧ L ≤ 16 ∧ L ≤ 32 - (A : Int) % 128 / 4)) : mayV A L l = false := by
  unfold mayV hdB; rw [decide_eq_false h]; rfl
theorem mayV_sum {A : Nat} {L : Int} {l : List Mz} (h : A % 4 = 0 ∧ 1 ≤ L ∧ L ≤ 16 ∧ L ≤ 32 - (A : Int) % 128 / 4) : mayV A L l = (maySum l 0 == some L) := by
  unfold mayV hdB; rw [decide_eq_true h]; rfl
def mays (N A : Nat) (L : Int) (LL : List SV) (i : Nat) (s : Int) : St :=
  ⟨[(1, .a (.s (.ptr 1 0))), (3, .a (.s (.int .i64 s))), (29, .a (.s (.sl 0 0 N))), (30, .a (.s (.int .i64 N))), (31, .a (.s (.int .i64 i)))],
   [(0, some ⟨false, 6, LL⟩), (1, some ⟨true, 1, [.int .u32 A, .int .i64 L, .sl 0 0 N]⟩)], [0]⟩
set_option maxHeartbeats 600000 in
set_option maxRecDepth 100000 in
theorem may_fn (A : Nat) (hA : A < 4294967296) (L : Int) (l : List Mz) (N : Nat) (hN : l.length = N) (hN2 : N ≤ 1000000) :
    Fn Try.prog 13 [.agg [.int .u32 A, .int .i64 L, .sl 0 0 N]] [⟨false, 6, mzs l⟩] (· = ⟨.a (.s (.bool (mayV A L l))), [], []⟩) := by
  have hsc := mzs_scal l
  have hLl := mzs_len l
  have hr := room_fn A hA
  have h4 : ∀ x : Int, (x = (A : Int) % 4) → (x = 0 ↔ A % 4 = 0) := fun x hx => by omega
  generalize hLL : mzs l = LL at *
  refine fn_of_vc mixed tys_ok _ _ Try.func13 (by kernel_rfl) rfl Try.ntmps13 (by rw [Try.results13]) rfl ?_; dsimp only [argTm, argHl, Nat.zero_add, Nat.reduceAdd, List.length_nil, List.length_cons]
  (repeat' ((conv => whnf); first | (refine vcall_pure (f := 28) (hr) rfl ?_) | (with_reducible apply sd_draw; · kernel_rfl) | (apply Sd.mk; · first | exact rfl | trivial | omega | (repeat' apply And.intro) <;> first | exact rfl | exact Nat.le_of_ble_eq_true rfl | omega | decide) | ((with_reducible apply Vl.mk (α := Int)); · (first | (with_reducible exact bits_keep _ _ _ _) | ((rewrite [tdiv_pos]); (focus (first | exact wi64 (by omega) (by omega) | exact wu32 (by omega) (by omega) | exact wi32 (by omega) (by omega))); omega) | exact tmod_pos (by omega) | exact wi64 (by omega) (by omega) | exact wu32 (by omega) (by omega) | exact wu32' _ | exact wu8 (by omega) (by omega) | exact wu64 (by omega) (by omega) | exact wi32 (by omega) (by omega) | rfl)) | ((with_reducible first | apply Vl.mk (α := Bool) | apply Vl.mk (α := Nat) | apply Vl.mk (α := ByteArray) | apply Ge.mk (α := Row) | apply Ge.mk (α := SV) | apply Ge.mk (α := AV)); · exact rfl) | (refine And.intro rfl ?_) | ((with_reducible first | apply Vl.mk (α := List SV) | apply Vl.mk (α := Ef) | apply Vl.mk (α := TV) | apply Ge.mk (α := List SV) | apply Sg.mk | apply Sk.mk); · (first | exact setAll_eq rfl | exact sg_all _ rfl | exact sk_all _ rfl rfl | ((first | apply sg_fc | apply sk_fc | (apply fc_eq; (conv => arg 1; whnf); apply fc_some) | apply fc_eq); (repeat' (first | exact fc_ren (wsv_scal _) | exact fc_ren (by assumption) | ((conv => arg 1; whnf); first | exact fc_nil | apply fc_cons | exact fc_int | exact fc_bool | exact fc_n | exact fc_ns | exact fc_ptr | exact fc_sl | exact fc_str | exact fc_unk | exact fc_fn | apply fc_s | apply fc_agg | apply fc_ta | apply fc_tup | exact fc_an | apply fc_ac | exact fc_tu | exact fc_nat | exact fc_bo | exact fc_none | apply fc_some | apply fc_pair | apply fc_row | apply fc_ef))); (all_goals exact rfl)) | ((dsimp only [Res.ef, renT, renA, renS, renN, nwN, upN, renRow, List.map_cons, List.map_nil, List.length_cons, List.length_nil]); first | done | exact rfl) | (dsimp only [setAll, List.set_cons_zero, List.set_cons_succ, List.cons_append, List.nil_append]; exact rfl) | exact rfl)) | ((first | apply Br.mk | apply Gd.mk) <;> (intro hb; first | (exact absurd hb (by decide)) | exact Bool.noConfusion (hb.symm.trans (by assumption) : true = false) | exact Bool.noConfusion (hb.symm.trans (by assumption) : false = true) | (simp only [decide_eq_true_eq, decide_eq_false_iff_not, beq_iff_eq, bne_iff_ne, beq_eq_false_iff_ne, bne_eq_false_iff_eq, Bool.not_eq_true', Bool.not_eq_false', Int.not_lt, Int.not_le, ge_iff_le, gt_iff_lt, ne_eq, Classical.not_not] at hb; first | (exfalso; omega) | skip) | skip)))); (all_goals (try (conv => whnf)))
  · rw [mayV_hd (by omega)]; (apply Fin.mk (m := [(0, some 0)]); (focus exact rfl); (all_goals ((try (show HlS _ _ [] _)); first | ((repeat' (first | exact SVsM.nil | exact avsm_nil | exact svm_same rfl | exact svm_ptr rfl | exact svm_sl rfl | exact svm_slnil rfl | exact svsm_scal rfl | exact svsm_scal (wsv_scal _) | exact svsm_scal (by assumption) | exact hls_nil | apply SVsM.cons | apply tvm_a | apply tvm_tup | apply avm_agg | apply avm_s | apply avsm_cons | exact trivial | (refine hls_skip rfl ?_) | apply hls_none | apply hls_row | (refine rowmt_mk rfl rfl rfl rfl ?_) | exact rowmt_nil rfl rfl)); done) | exact rfl)))
  · refine Lp.inv (fun mm σ => ∃ (i : Nat) (s : Int), mm + i = N ∧ 0 ≤ s ∧ s ≤ 16 * i ∧ maySum (l.drop i) s = maySum l 0 ∧ σ = mays N A L LL i s) ?_ ?_
    · refine ⟨N, mays N A L LL 0 0, ?_, 0, 0, by omega, by omega, by omega, rfl, rfl⟩
      apply wk_of (m := [(0, some 0), (1, some 65536)])
      · repeat' (first | exact tml_nil | apply tml_cons)
        all_goals first | exact tvm_a (avm_s (svm_same rfl)) | exact tvm_a (avm_s (svm_ptr rfl)) | exact tvm_a (avm_s (svm_sl rfl))
      · show HlS _ _ [] _
        refine hls_row (rowmt_mk rfl rfl rfl rfl (svsm_scal hsc)) ?_
        refine hls_row (rowmt_mk rfl rfl rfl rfl (.cons (svm_same rfl) (.cons (svm_same rfl) (.cons (svm_sl rfl) .nil)))) ?_
        exact hls_nil
      · rfl
    · rintro mm σ ⟨i, s, hmi, hs0, hs1, hinv, rfl⟩
      unfold mays
      by_cases hiN : i < N
      · obtain ⟨⟨o, a, b, c, k, n⟩, hm⟩ : ∃ m, l[i]? = some m := ⟨l[i]'(by omega), List.getElem?_eq_getElem (by omega)⟩
        have hd : l.drop i = ⟨o, a, b, c, k, n⟩ :: l.drop (i + 1) := by
          have hlt := (List.getElem?_eq_some_iff.1 hm).1
          rw [List.drop_eq_getElem_cons hlt]
          congr 1
          exact (List.getElem?_eq_some_iff.1 hm).2
        have hie : (l.drop (i + 1)).isEmpty = decide (i + 1 = N) := by
          rw [Bool.eq_iff_iff, List.isEmpty_iff, List.drop_eq_nil_iff, decide_eq_true_eq]; omega
        have hst : ∀ okb, okM ⟨o, a, b, c, k, n⟩ (decide (i + 1 = N)) = okb → maySum l 0 = if okb = true then maySum (l.drop (i + 1)) (s + n) else none := fun okb h => by
          rw [← hinv, hd, maySum, hie, h]
        have hok : okM ⟨o, a, b, c, k, n⟩ (decide (i + 1 = N)) = (useOk o && decide (1 ≤ n) && decide (n ≤ 16) && rgB a && rgB b && rgB c && (decide (i + 1 = N) || !endsB o)) := rfl
        generalize okM ⟨o, a, b, c, k, n⟩ (decide (i + 1 = N)) = okb at *
        replace hst := hst _ rfl
        have seg := mzs_seg l i _ hm
        have q1 : 1 ≤ n → n ≤ 16 → IntKind.i64.wrap (s + n) = s + n := fun h1 h2 => wi64 (by omega) (by omega)
        have q2 : IntKind.i64.wrap ((i : Int) + 1) = ((i + 1 : Nat) : Int) := by rw [wi64 (by omega) (by omega)]; omega
        have x1 : 0 + ((i : Nat) : Int).toNat * ty39.size = i * 6 := by show 0 + ((i : Nat) : Int).toNat * 6 = _; omega
        have cv := validO_fn o
        have ca := breg_fn a
        have cb := breg_fn b
        have cc := breg_fn c
        have ce := ends_fn o
        dsimp only [Mz.C] at seg
        rw [hLL] at seg
        generalize hU : useOk o = U at *
        generalize hE : endsB o = E at *
        generalize hra : rgB a = ra at *
        generalize hrb : rgB b = rb at *
        generalize hrc : rgB c = rc at *
        (repeat' ((conv => whnf); first | ((with_reducible apply Vl.mk (α := Int)); · with_reducible first | exact q1 (by omega) (by omega) | exact q2)  |  ((with_reducible apply Vl.mk (α := Nat)); · with_reducible exact x1)  |  (apply Sg.mk; · exact seg)  |  (refine vcall_pure (f := 31) (cv) rfl ?_)  |  (refine vcall_pure (f := 32) (ca) rfl ?_)  |  (refine vcall_pure (f := 32) (cb) rfl ?_)  |  (refine vcall_pure (f := 32) (cc) rfl ?_)  |  (refine vcall_pure (f := 14) (ce) rfl ?_) | (with_reducible apply sd_draw; · kernel_rfl) | (apply Sd.mk; · first | exact rfl | trivial | omega | (repeat' apply And.intro) <;> first | exact rfl | exact Nat.le_of_ble_eq_true rfl | omega | decide) | ((with_reducible apply Vl.mk (α := Int)); · (first | (with_reducible exact bits_keep _ _ _ _) | ((rewrite [tdiv_pos]); (focus (first | exact wi64 (by omega) (by omega) | exact wu32 (by omega) (by omega) | exact wi32 (by omega) (by omega))); omega) | exact tmod_pos (by omega) | exact wi64 (by omega) (by omega) | exact wu32 (by omega) (by omega) | exact wu32' _ | exact wu8 (by omega) (by omega) | exact wu64 (by omega) (by omega) | exact wi32 (by omega) (by omega) | rfl)) | ((with_reducible first | apply Vl.mk (α := Bool) | apply Vl.mk (α := Nat) | apply Vl.mk (α := ByteArray) | apply Ge.mk (α := Row) | apply Ge.mk (α := SV) | apply Ge.mk (α := AV)); · exact rfl) | (refine And.intro rfl ?_) | ((with_reducible first | apply Vl.mk (α := List SV) | apply Vl.mk (α := Ef) | apply Vl.mk (α := TV) | apply Ge.mk (α := List SV) | apply Sg.mk | apply Sk.mk); · (first | exact setAll_eq rfl | exact sg_all _ rfl | exact sk_all _ rfl rfl | ((first | apply sg_fc | apply sk_fc | (apply fc_eq; (conv => arg 1; whnf); apply fc_some) | apply fc_eq); (repeat' (first | exact fc_ren (wsv_scal _) | exact fc_ren (by assumption) | ((conv => arg 1; whnf); first | exact fc_nil | apply fc_cons | exact fc_int | exact fc_bool | exact fc_n | exact fc_ns | exact fc_ptr | exact fc_sl | exact fc_str | exact fc_unk | exact fc_fn | apply fc_s | apply fc_agg | apply fc_ta | apply fc_tup | exact fc_an | apply fc_ac | exact fc_tu | exact fc_nat | exact fc_bo | exact fc_none | apply fc_some | apply fc_pair | apply fc_row | apply fc_ef))); (all_goals exact rfl)) | ((dsimp only [Res.ef, renT, renA, renS, renN, nwN, upN, renRow, List.map_cons, List.map_nil, List.length_cons, List.length_nil]); first | done | exact rfl) | (dsimp only [setAll, List.set_cons_zero, List.set_cons_succ, List.cons_append, List.nil_append]; exact rfl) | exact rfl)) | ((first | apply Br.mk | apply Gd.mk) <;> (intro hb; first | (exact absurd hb (by decide)) | exact Bool.noConfusion (hb.symm.trans (by assumption) : true = false) | exact Bool.noConfusion (hb.symm.trans (by assumption) : false = true) | (simp only [decide_eq_true_eq, decide_eq_false_iff_not, beq_iff_eq, bne_iff_ne, beq_eq_false_iff_ne, bne_eq_false_iff_eq, Bool.not_eq_true', Bool.not_eq_false', Int.not_lt, Int.not_le, ge_iff_le, gt_iff_lt, ne_eq, Classical.not_not] at hb; first | (exfalso; omega) | skip) | skip)))); (all_goals (try (conv => whnf)))
        all_goals first
          | (rw [mayV_sum ⟨by omega, by omega, by omega, by omega⟩, hst, if_neg (by rw [hok]; grind), show ((none : Option Int) == some L) = false from rfl]
             (apply Fin.mk (m := [(0, some 0)]); (focus exact rfl); (all_goals ((try (show HlS _ _ [] _)); first | ((repeat' (first | exact SVsM.nil | exact avsm_nil | exact svm_same rfl | exact svm_ptr rfl | exact svm_sl rfl | exact svm_slnil rfl | exact svsm_scal rfl | exact svsm_scal (wsv_scal _) | exact svsm_scal (by assumption) | exact hls_nil | apply SVsM.cons | apply tvm_a | apply tvm_tup | apply avm_agg | apply avm_s | apply avsm_cons | exact trivial | (refine hls_skip rfl ?_) | apply hls_none | apply hls_row | (refine rowmt_mk rfl rfl rfl rfl ?_) | exact rowmt_nil rfl rfl)); done) | exact rfl))))
          | (refine ⟨mm - 1, mays N A L LL (i + 1) (s + n), by omega, ?_, i + 1, s + n, by omega, by omega, by omega, by rw [hst, if_pos (by rw [hok]; grind)], rfl⟩
             apply wk_of (m := [(0, some 0), (1, some 1)])
             · repeat' (first | exact tml_nil | apply tml_cons)
               all_goals first | exact tvm_a (avm_s (svm_same rfl)) | exact tvm_a (avm_s (svm_ptr rfl)) | exact tvm_a (avm_s (svm_sl rfl))
             · show HlS _ _ [] _
               refine hls_row (rowmt_mk rfl rfl rfl rfl (svsm_scal hsc)) ?_
               refine hls_row (rowmt_mk rfl rfl rfl rfl (.cons (svm_same rfl) (.cons (svm_same rfl) (.cons (svm_sl rfl) .nil)))) ?_
               exact hls_nil
             · rfl)
          | trace_state
      · have hdn : l.drop i = [] := List.drop_eq_nil_of_le (by omega)
        have hst : maySum l 0 = some s := by rw [← hinv, hdn]; rfl
        rw [mayV_sum ⟨by omega, by omega, by omega, by omega⟩, hst]
        (repeat' ((conv => whnf); first | (with_reducible apply sd_draw; · kernel_rfl) | (apply Sd.mk; · first | exact rfl | trivial | omega | (repeat' apply And.intro) <;> first | exact rfl | exact Nat.le_of_ble_eq_true rfl | omega | decide) | ((with_reducible apply Vl.mk (α := Int)); · (first | (with_reducible exact bits_keep _ _ _ _) | ((rewrite [tdiv_pos]); (focus (first | exact wi64 (by omega) (by omega) | exact wu32 (by omega) (by omega) | exact wi32 (by omega) (by omega))); omega) | exact tmod_pos (by omega) | exact wi64 (by omega) (by omega) | exact wu32 (by omega) (by omega) | exact wu32' _ | exact wu8 (by omega) (by omega) | exact wu64 (by omega) (by omega) | exact wi32 (by omega) (by omega) | rfl)) | ((with_reducible first | apply Vl.mk (α := Bool) | apply Vl.mk (α := Nat) | apply Vl.mk (α := ByteArray) | apply Ge.mk (α := Row) | apply Ge.mk (α := SV) | apply Ge.mk (α := AV)); · exact rfl) | (refine And.intro rfl ?_) | ((with_reducible first | apply Vl.mk (α := List SV) | apply Vl.mk (α := Ef) | apply Vl.mk (α := TV) | apply Ge.mk (α := List SV) | apply Sg.mk | apply Sk.mk); · (first | exact setAll_eq rfl | exact sg_all _ rfl | exact sk_all _ rfl rfl | ((first | apply sg_fc | apply sk_fc | (apply fc_eq; (conv => arg 1; whnf); apply fc_some) | apply fc_eq); (repeat' (first | exact fc_ren (wsv_scal _) | exact fc_ren (by assumption) | ((conv => arg 1; whnf); first | exact fc_nil | apply fc_cons | exact fc_int | exact fc_bool | exact fc_n | exact fc_ns | exact fc_ptr | exact fc_sl | exact fc_str | exact fc_unk | exact fc_fn | apply fc_s | apply fc_agg | apply fc_ta | apply fc_tup | exact fc_an | apply fc_ac | exact fc_tu | exact fc_nat | exact fc_bo | exact fc_none | apply fc_some | apply fc_pair | apply fc_row | apply fc_ef))); (all_goals exact rfl)) | ((dsimp only [Res.ef, renT, renA, renS, renN, nwN, upN, renRow, List.map_cons, List.map_nil, List.length_cons, List.length_nil]); first | done | exact rfl) | (dsimp only [setAll, List.set_cons_zero, List.set_cons_succ, List.cons_append, List.nil_append]; exact rfl) | exact rfl)) | ((first | apply Br.mk | apply Gd.mk) <;> (intro hb; first | (exact absurd hb (by decide)) | exact Bool.noConfusion (hb.symm.trans (by assumption) : true = false) | exact Bool.noConfusion (hb.symm.trans (by assumption) : false = true) | (simp only [decide_eq_true_eq, decide_eq_false_iff_not, beq_iff_eq, bne_iff_ne, beq_eq_false_iff_ne, bne_eq_false_iff_eq, Bool.not_eq_true', Bool.not_eq_false', Int.not_lt, Int.not_le, ge_iff_le, gt_iff_lt, ne_eq, Classical.not_not] at hb; first | (exfalso; omega) | skip) | skip)))); (all_goals (try (conv => whnf)))
        all_goals first | ((apply Fin.mk (m := [(0, some 0)]); (focus exact rfl); (all_goals ((try (show HlS _ _ [] _)); first | ((repeat' (first | exact SVsM.nil | exact avsm_nil | exact svm_same rfl | exact svm_ptr rfl | exact svm_sl rfl | exact svm_slnil rfl | exact svsm_scal rfl | exact svsm_scal (wsv_scal _) | exact svsm_scal (by assumption) | exact hls_nil | apply SVsM.cons | apply tvm_a | apply tvm_tup | apply avm_agg | apply avm_s | apply avsm_cons | exact trivial | (refine hls_skip rfl ?_) | apply hls_none | apply hls_row | (refine rowmt_mk rfl rfl rfl rfl ?_) | exact rowmt_nil rfl rfl)); done) | exact rfl)))) | trace_state
  all_goals first | (rw [mayV_hd (by omega)]; (apply Fin.mk (m := [(0, some 0)]); (focus exact rfl); (all_goals ((try (show HlS _ _ [] _)); first | ((repeat' (first | exact SVsM.nil | exact avsm_nil | exact svm_same rfl | exact svm_ptr rfl | exact svm_sl rfl | exact svm_slnil rfl | exact svsm_scal rfl | exact svsm_scal (wsv_scal _) | exact svsm_scal (by assumption) | exact hls_nil | apply SVsM.cons | apply tvm_a | apply tvm_tup | apply avm_agg | apply avm_s | apply avsm_cons | exact trivial | (refine hls_skip rfl ?_) | apply hls_none | apply hls_row | (refine rowmt_mk rfl rfl rfl rfl ?_) | exact rowmt_nil rfl rfl)); done) | exact rfl)))) | trace_state
end Go.Proofs.Ytppjiheebpabjaa
