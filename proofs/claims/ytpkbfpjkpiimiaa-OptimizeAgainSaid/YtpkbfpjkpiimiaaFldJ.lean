/- Fold of any block that may be folded. -/
import Derived.Test.YtpkbfpjkpiimiaaFldI
namespace Go.Proofs.Ytpkbfpjkpiimiaa
open Go Go.RowKit
set_option linter.unusedSimpArgs false
set_option linter.unusedVariables false

theorem rewM_ok (m : Mi) (is : List Bool) (v : List Nat) (hvr : ∀ y ∈ v, y < 4294967296) (h : m.a < 16 ∧ m.b < 16 ∧ m.c < 16 ∧ m.k < 4294967296) : (rewM m is v).a < 16 ∧ (rewM m is v).b < 16 ∧ (rewM m is v).c < 16 ∧ (rewM m is v).k < 4294967296 ∧ (rewM m is v).n = m.n := by
  have g := getD_lt hvr
  have hal : ∀ o x y, x < 4294967296 → y < 4294967296 → aluN o x y < 4294967296 := fun o x y hx hy => by
    have h1 := aluN_cast o x y hx hy
    have h2 := aluV_rng o x y hx hy
    omega
  have gb := g m.b
  have gc := g m.c
  unfold rewM
  repeat' split
  all_goals
    refine ⟨?_, ?_, ?_, ?_, rfl⟩ <;> (try dsimp only) <;> first | omega | (apply hal <;> first | assumption | exact h.2.2.2) | (split <;> omega)
theorem aft_len (o : Int) (a k : Nat) (is : List Bool) (v : List Nat) : (aftI o a is).length = is.length ∧ (aftV o a k v).length = v.length := by
  unfold aftI aftV
  constructor <;> split <;> simp
theorem aft_rng (o : Int) (a k : Nat) (v : List Nat) (hk : k < 4294967296) (h : ∀ y ∈ v, y < 4294967296) : ∀ y ∈ aftV o a k v, y < 4294967296 := by
  intro y hy
  unfold aftV at hy
  split at hy
  · exact h y hy
  · rcases List.mem_or_eq_of_mem_set hy with h1 | h1
    · exact h y h1
    · subst h1; split <;> omega
theorem rewM_n (m : Mi) (is : List Bool) (v : List Nat) : (rewM m is v).n = m.n := by
  unfold rewM
  repeat' split
  all_goals rfl
theorem rwL_len : ∀ (l : List Mi) (is : List Bool) (v : List Nat), (rwL l is v).length = l.length
  | [], _, _ => rfl
  | m :: l, is, v => by unfold rwL; rw [List.length_cons, List.length_cons, rwL_len l]
theorem rwL_n : ∀ (l : List Mi) (is : List Bool) (v : List Nat) (m : Mi), m ∈ rwL l is v → ∃ m0 ∈ l, m.n = m0.n
  | [], _, _, m, h => by cases h
  | m0 :: l, is, v, m, h => by
    unfold rwL at h
    rcases List.mem_cons.1 h with h | h
    · subst h; exact ⟨m0, by simp, rewM_n m0 is v⟩
    · obtain ⟨q, h1, h2⟩ := rwL_n l _ _ m h
      exact ⟨q, by simp [h1], h2⟩
theorem mrg_pos : ∀ (l : List Mi) (p : Int), 0 < l.length → 0 < (mrg l p).length
  | [], _, h => by simp at h
  | [m], p, _ => by simp [mrg]
  | m :: m' :: l, p, _ => by
    unfold mrg
    split
    · exact mrg_pos (m' :: l) _ (by simp)
    · simp
def isb0 : List Bool := [true, false, false, false, false, false, false, false, false, false, false, false, false, false, false, false]
def val0 : List Nat := [0, 0, 0, 0, 0, 0, 0, 0, 0, 0, 0, 0, 0, 0, 0, 0]
def fst (N : Nat) (A : Nat) (L : Int) (LL : List SV) (i : Nat) (KN RW : List SV) : St :=
  ⟨[(1, .a (.s (.ptr 1 0))), (2, .a (.s (.ptr 2 0))), (3, .a (.s (.ptr 3 0))), (17, .a (.s (.sl 4 0 N))), (18, .a (.s (.int .i64 N))), (19, .a (.s (.int .i64 i)))],
   [(0, some ⟨false, 6, LL⟩), (1, some ⟨true, 1, [.int .u32 A, .int .i64 L, .sl 4 0 N]⟩), (2, some ⟨true, 1, [.int .u32 0, .int .i64 0, .nilsl]⟩), (3, some ⟨true, 1, KN⟩), (4, some ⟨true, 6, RW⟩)], [0]⟩
set_option maxHeartbeats 600000 in
set_option maxRecDepth 100000 in
theorem foldG_fn (A : Nat) (L : Int) (l : List Mi) (N : Nat) (hN : l.length = N) (hN2 : N ≤ 1000000) (h0 : 0 < N) (hok : ∀ m ∈ l, m.a < 16 ∧ m.b < 16 ∧ m.c < 16 ∧ m.k < 4294967296 ∧ 0 ≤ m.n ∧ m.n ≤ 1000000)
    (hmay : Fn Try.prog 20 [.agg [.int .u32 A, .int .i64 L, .sl 0 0 N]] [⟨false, 6, mcs l⟩] (· = ⟨.a (.s (.bool true)), [], []⟩)) :
    Fn Try.prog 12 [.agg [.int .u32 A, .int .i64 L, .sl 0 0 N]] [⟨false, 6, mcs l⟩] (· = ⟨.a (.agg [.int .u32 A, .int .i64 L, .sl 1 0 (mrg (rwL l isb0 val0) 0).length]), [], [⟨true, 6, mcs (mrg (rwL l isb0 val0) 0)⟩]⟩) := by
  have hcl := cloneG_fn l N hN hN2 h0
  have hsc := mcs_scal l
  have hLl := mcs_len l
  generalize hLL : mcs l = LL at *
  refine fn_of_vc mixed tys_ok _ _ Try.func12 (by kernel_rfl) rfl Try.ntmps12 (by rw [Try.results12]) rfl ?_; dsimp only [argTm, argHl, Nat.zero_add, Nat.reduceAdd, List.length_nil, List.length_cons]
  (repeat' ((conv => whnf); first | (refine vcall_det (f := 26) hcl [⟨0, 0⟩] [(0, ⟨false, 6, LL⟩)] rfl ⟨rfl, trivial⟩ ⟨rfl, rowM_ro hsc, trivial⟩ ⟨rfl, noUp⟩ ?_)  |  (refine vcall_det (f := 20) hmay [⟨_, 0⟩] [(_, ⟨true, 6, LL⟩)] rfl ⟨rfl, trivial⟩ ⟨rfl, rowM_ro hsc, trivial⟩ ⟨rfl, noUp⟩ ?_) | (with_reducible apply sd_draw; · kernel_rfl) | (apply Sd.mk; · first | exact rfl | trivial | omega | (repeat' apply And.intro) <;> first | exact rfl | exact Nat.le_of_ble_eq_true rfl | omega | decide) | ((with_reducible apply Vl.mk (α := Int)); · (first | (with_reducible exact bits_keep _ _ _ _) | ((rewrite [tdiv_pos]); (focus (first | exact wi64 (by omega) (by omega) | exact wu32 (by omega) (by omega) | exact wi32 (by omega) (by omega))); omega) | exact tmod_pos (by omega) | exact wi64 (by omega) (by omega) | exact wu32 (by omega) (by omega) | exact wu32' _ | exact wu8 (by omega) (by omega) | exact wu64 (by omega) (by omega) | exact wi32 (by omega) (by omega) | rfl)) | ((with_reducible first | apply Vl.mk (α := Bool) | apply Vl.mk (α := Nat) | apply Vl.mk (α := ByteArray) | apply Ge.mk (α := Row) | apply Ge.mk (α := SV) | apply Ge.mk (α := AV)); · exact rfl) | (refine And.intro rfl ?_) | ((with_reducible first | apply Vl.mk (α := List SV) | apply Vl.mk (α := Ef) | apply Vl.mk (α := TV) | apply Ge.mk (α := List SV) | apply Sg.mk | apply Sk.mk); · (first | exact setAll_eq rfl | exact sg_all _ rfl | exact sk_all _ rfl rfl | ((first | apply sg_fc | apply sk_fc | (apply fc_eq; (conv => arg 1; whnf); apply fc_some) | apply fc_eq); (repeat' (first | exact fc_ren (wsv_scal _) | exact fc_ren (by assumption) | ((conv => arg 1; whnf); first | exact fc_nil | apply fc_cons | exact fc_int | exact fc_bool | exact fc_n | exact fc_ns | exact fc_ptr | exact fc_sl | exact fc_str | exact fc_unk | exact fc_fn | apply fc_s | apply fc_agg | apply fc_ta | apply fc_tup | exact fc_an | apply fc_ac | exact fc_tu | exact fc_nat | exact fc_bo | exact fc_none | apply fc_some | apply fc_pair | apply fc_row | apply fc_ef))); (all_goals exact rfl)) | ((dsimp only [Res.ef, renT, renA, renS, renN, nwN, upN, renRow, List.map_cons, List.map_nil, List.length_cons, List.length_nil]); first | done | exact rfl) | (dsimp only [setAll, List.set_cons_zero, List.set_cons_succ, List.cons_append, List.nil_append]; exact rfl) | exact rfl)) | ((first | apply Br.mk | apply Gd.mk) <;> (intro hb; first | (exact absurd hb (by decide)) | exact Bool.noConfusion (hb.symm.trans (by assumption) : true = false) | exact Bool.noConfusion (hb.symm.trans (by assumption) : false = true) | (simp only [decide_eq_true_eq, decide_eq_false_iff_not, beq_iff_eq, bne_iff_ne, beq_eq_false_iff_ne, bne_eq_false_iff_eq, Bool.not_eq_true', Bool.not_eq_false', Int.not_lt, Int.not_le, ge_iff_le, gt_iff_lt, ne_eq, Classical.not_not] at hb; first | (exfalso; omega) | skip) | skip)))); (all_goals (try (conv => whnf)))
  refine Lp.inv (fun mm σ => ∃ (i : Nat) (pre : List Mi) (is : List Bool) (v : List Nat), mm + i = N ∧ pre.length = i ∧ is.length = 16 ∧ v.length = 16 ∧ (∀ y ∈ v, y < 4294967296) ∧ pre ++ rwL (l.drop i) is v = rwL l isb0 val0 ∧ σ = fst N A L LL i (knC is v) (mcs (pre ++ l.drop i))) ?_ ?_
  · refine ⟨N, fst N A L LL 0 (knC isb0 val0) LL, ?_, 0, [], isb0, val0, by omega, rfl, rfl, rfl, by decide, rfl, by rw [← hLL]; rfl⟩
    apply wk_of (m := [(0, some 0), (1, some 65536), (2, some 65600), (3, some 262144), (4, some 131200)])
    · repeat' (first | exact tml_nil | apply tml_cons)
      all_goals first | exact tvm_a (avm_s (svm_same rfl)) | exact tvm_a (avm_s (svm_ptr rfl)) | exact tvm_a (avm_s (svm_sl rfl))
    · show HlS _ _ [] _
      refine hls_row (rowmt_mk rfl rfl rfl rfl (svsm_scal hsc)) ?_
      refine hls_row (rowmt_mk rfl rfl rfl rfl (.cons (svm_same rfl) (.cons (svm_same rfl) (.cons (svm_sl rfl) .nil)))) ?_
      refine hls_row (rowmt_mk rfl rfl rfl rfl (svsm_scal rfl)) ?_
      refine hls_row (rowmt_mk rfl rfl rfl rfl (svsm_scal rfl)) ?_
      refine hls_row (rowmt_mk rfl rfl rfl rfl (svsm_scal hsc)) ?_
      exact hls_nil
    · rfl
  · rintro mm σ ⟨i, pre, is, v, hmi, hpl, hi, hv, hvr, hinv, rfl⟩
    unfold fst
    by_cases hiN : i < N
    · obtain ⟨⟨o, a, b, c, k, n⟩, hm⟩ : ∃ m, l[i]? = some m := ⟨l[i]'(by omega), List.getElem?_eq_getElem (by omega)⟩
      have hmok := hok _ (List.mem_of_getElem? hm)
      have hd : l.drop i = ⟨o, a, b, c, k, n⟩ :: l.drop (i + 1) := by
        have hlt := (List.getElem?_eq_some_iff.1 hm).1
        rw [List.drop_eq_getElem_cons hlt]
        congr 1
        exact (List.getElem?_eq_some_iff.1 hm).2
      dsimp only at hmok
      have hrw := rewG_fn o n a b c k is v hi hv hvr hmok.1 hmok.2.1 hmok.2.2.1 hmok.2.2.2.1
      have hrok := rewM_ok ⟨o, a, b, c, k, n⟩ is v hvr ⟨hmok.1, hmok.2.1, hmok.2.2.1, hmok.2.2.2.1⟩
      have hstep : rwL (l.drop i) is v = rewM ⟨o, a, b, c, k, n⟩ is v :: rwL (l.drop (i + 1)) (aftI (rewM ⟨o, a, b, c, k, n⟩ is v).o (rewM ⟨o, a, b, c, k, n⟩ is v).a is) (aftV (rewM ⟨o, a, b, c, k, n⟩ is v).o (rewM ⟨o, a, b, c, k, n⟩ is v).a (rewM ⟨o, a, b, c, k, n⟩ is v).k v) := by rw [hd]; rfl
      obtain ⟨⟨o2, a2, b2, c2, k2, n2⟩, hm2⟩ : ∃ m2, rewM ⟨o, a, b, c, k, n⟩ is v = m2 := ⟨_, rfl⟩
      rw [hm2] at hrw hrok hstep
      dsimp only at hrok hstep
      have haf := afterG_fn o2 n2 a2 b2 c2 k2 is v hi hv hrok.1
      have hal := aft_len o2 a2 k2 is v
      have har := aft_rng o2 a2 k2 v hrok.2.2.2.1 hvr
      have seg := mcs_seg (pre ++ l.drop i) i ⟨o, a, b, c, k, n⟩ (by rw [List.getElem?_append_right (by omega), hpl, Nat.sub_self, hd]; rfl)
      have hset := mcs_set (pre ++ l.drop i) i ⟨o2, a2, b2, c2, k2, n2⟩ (by rw [List.length_append, hd]; simp; omega)
      have hre : (pre ++ l.drop i).set i ⟨o2, a2, b2, c2, k2, n2⟩ = (pre ++ [⟨o2, a2, b2, c2, k2, n2⟩]) ++ l.drop (i + 1) := by
        rw [List.set_append_right _ _ (by omega), hpl, Nat.sub_self, hd]; simp
      rw [hre] at hset
      have seg2 := mcs_seg ((pre ++ [⟨o2, a2, b2, c2, k2, n2⟩]) ++ l.drop (i + 1)) i ⟨o2, a2, b2, c2, k2, n2⟩ (by rw [List.append_assoc, List.getElem?_append_right (by omega), hpl, Nat.sub_self]; rfl)
      have hRs := mcs_scal (pre ++ l.drop i)
      have hRs2 := mcs_scal ((pre ++ [⟨o2, a2, b2, c2, k2, n2⟩]) ++ l.drop (i + 1))
      have hRl : (mcs (pre ++ l.drop i)).length = N * 6 := by
        rw [mcs_len, List.length_append, List.length_drop, hpl]; omega
      have hinv2 : (pre ++ [⟨o2, a2, b2, c2, k2, n2⟩]) ++ rwL (l.drop (i + 1)) (aftI o2 a2 is) (aftV o2 a2 k2 v) = rwL l isb0 val0 := by rw [← hinv, hstep, List.append_assoc]; rfl
      have kl : (knC is v).length = 32 := by unfold knC bsv; simp [hi, hv]
      have kl2 : (knC (aftI o2 a2 is) (aftV o2 a2 k2 v)).length = 32 := by unfold knC bsv; simp [hal, hi, hv]
      have kk := kn_known (aftI o2 a2 is) (aftV o2 a2 k2 v)
      have hsa : setAll (knC is v) 0 (knC (aftI o2 a2 is) (aftV o2 a2 k2 v)) = knC (aftI o2 a2 is) (aftV o2 a2 k2 v) := setAll_all (by rw [kl, kl2])
      have q2 : IntKind.i64.wrap ((i : Int) + 1) = ((i + 1 : Nat) : Int) := by rw [wi64 (by omega) (by omega)]; omega
      have x1 : 0 + ((i : Nat) : Int).toNat * ty39.size = i * 6 := by show 0 + ((i : Nat) : Int).toNat * 6 = _; omega
      have ksc : ∀ (i' : List Bool) (v' : List Nat), allScal (knC i' v') = true := fun i' v' => by
        unfold knC
        refine allScal_append ?_ (wsv_scal v')
        induction i' with
        | nil => rfl
        | cons x l ih => exact ih
      have ks1 := ksc is v
      have ks2 := ksc (aftI o2 a2 is) (aftV o2 a2 k2 v)
      dsimp only [Mi.C] at seg seg2 hset hrw haf
      generalize hK1 : knC is v = KN at *
      generalize hK2 : knC (aftI o2 a2 is) (aftV o2 a2 k2 v) = KN2 at *
      generalize hR1 : mcs (pre ++ l.drop i) = RW at *
      generalize hR2 : mcs ((pre ++ [⟨o2, a2, b2, c2, k2, n2⟩]) ++ l.drop (i + 1)) = RW2 at *
      clear hcl hmay
      (repeat' ((conv => whnf); first | ((with_reducible apply Vl.mk (α := Int)); · with_reducible exact q2)  |  ((with_reducible apply Vl.mk (α := Nat)); · with_reducible exact x1)  |  (refine vcall_pure (f := 27) hrw (by simp [renA, renS, ren_scal ks1, capA]) ?_)  |  (refine vcall_pure (f := 28) haf (by simp [renA, renS, ren_scal ks1, capA]) ?_)  |  (apply Sd.mk; · first | exact ⟨kl2, kk, rfl, by show 0 + KN2.length ≤ KN.length; omega⟩ | (refine ⟨rfl, rfl, rfl, ?_⟩; show i * 6 + 6 ≤ RW.length; omega))  |  ((with_reducible apply Vl.mk (α := List SV)); · with_reducible first | exact hsa | exact hset)  |  (apply Sg.mk; · first | exact seg | exact seg2 | exact sg_all KN kl) | (with_reducible apply sd_draw; · kernel_rfl) | (apply Sd.mk; · first | exact rfl | trivial | omega | (repeat' apply And.intro) <;> first | exact rfl | exact Nat.le_of_ble_eq_true rfl | omega | decide) | ((with_reducible apply Vl.mk (α := Int)); · (first | (with_reducible exact bits_keep _ _ _ _) | ((rewrite [tdiv_pos]); (focus (first | exact wi64 (by omega) (by omega) | exact wu32 (by omega) (by omega) | exact wi32 (by omega) (by omega))); omega) | exact tmod_pos (by omega) | exact wi64 (by omega) (by omega) | exact wu32 (by omega) (by omega) | exact wu32' _ | exact wu8 (by omega) (by omega) | exact wu64 (by omega) (by omega) | exact wi32 (by omega) (by omega) | rfl)) | ((with_reducible first | apply Vl.mk (α := Bool) | apply Vl.mk (α := Nat) | apply Vl.mk (α := ByteArray) | apply Ge.mk (α := Row) | apply Ge.mk (α := SV) | apply Ge.mk (α := AV)); · exact rfl) | (refine And.intro rfl ?_) | ((with_reducible first | apply Vl.mk (α := List SV) | apply Vl.mk (α := Ef) | apply Vl.mk (α := TV) | apply Ge.mk (α := List SV) | apply Sg.mk | apply Sk.mk); · (first | exact setAll_eq rfl | exact sg_all _ rfl | exact sk_all _ rfl rfl | ((first | apply sg_fc | apply sk_fc | (apply fc_eq; (conv => arg 1; whnf); apply fc_some) | apply fc_eq); (repeat' (first | exact fc_ren (wsv_scal _) | exact fc_ren (by assumption) | ((conv => arg 1; whnf); first | exact fc_nil | apply fc_cons | exact fc_int | exact fc_bool | exact fc_n | exact fc_ns | exact fc_ptr | exact fc_sl | exact fc_str | exact fc_unk | exact fc_fn | apply fc_s | apply fc_agg | apply fc_ta | apply fc_tup | exact fc_an | apply fc_ac | exact fc_tu | exact fc_nat | exact fc_bo | exact fc_none | apply fc_some | apply fc_pair | apply fc_row | apply fc_ef))); (all_goals exact rfl)) | ((dsimp only [Res.ef, renT, renA, renS, renN, nwN, upN, renRow, List.map_cons, List.map_nil, List.length_cons, List.length_nil]); first | done | exact rfl) | (dsimp only [setAll, List.set_cons_zero, List.set_cons_succ, List.cons_append, List.nil_append]; exact rfl) | exact rfl)) | ((first | apply Br.mk | apply Gd.mk) <;> (intro hb; first | (exact absurd hb (by decide)) | exact Bool.noConfusion (hb.symm.trans (by assumption) : true = false) | exact Bool.noConfusion (hb.symm.trans (by assumption) : false = true) | (simp only [decide_eq_true_eq, decide_eq_false_iff_not, beq_iff_eq, bne_iff_ne, beq_eq_false_iff_ne, bne_eq_false_iff_eq, Bool.not_eq_true', Bool.not_eq_false', Int.not_lt, Int.not_le, ge_iff_le, gt_iff_lt, ne_eq, Classical.not_not] at hb; first | (exfalso; omega) | skip) | skip)))); (all_goals (try (conv => whnf)))
      all_goals first
        | (refine ⟨mm - 1, fst N A L LL (i + 1) KN2 RW2, by omega, ?_, i + 1, pre ++ [⟨o2, a2, b2, c2, k2, n2⟩], aftI o2 a2 is, aftV o2 a2 k2 v, by omega, by simp; omega, by omega, by omega, har, hinv2, by rw [hK2, hR2]; rfl⟩
           apply wk_of (m := [(0, some 0), (1, some 1), (2, some 2), (3, some 3), (4, some 4)])
           · repeat' (first | exact tml_nil | apply tml_cons)
             all_goals first | exact tvm_a (avm_s (svm_same rfl)) | exact tvm_a (avm_s (svm_ptr rfl)) | exact tvm_a (avm_s (svm_sl rfl))
           · show HlS _ _ [] _
             refine hls_row (rowmt_mk rfl rfl rfl rfl (svsm_scal hsc)) ?_
             refine hls_row (rowmt_mk rfl rfl rfl rfl (.cons (svm_same rfl) (.cons (svm_same rfl) (.cons (svm_sl rfl) .nil)))) ?_
             refine hls_row (rowmt_mk rfl rfl rfl rfl (svsm_scal rfl)) ?_
             refine hls_row (rowmt_mk rfl rfl rfl rfl (svsm_scal ks2)) ?_
             refine hls_row (rowmt_mk rfl rfl rfl rfl (svsm_scal hRs2)) ?_
             exact hls_nil
           · rfl)
        | trace_state
    · have hiN2 : i = N := by omega
      subst hiN2
      have hdn : l.drop i = [] := List.drop_eq_nil_of_le (by omega)
      have hpre : pre = rwL l isb0 val0 := by rw [← hinv, hdn]; show pre = pre ++ []; rw [List.append_nil]
      rw [hdn, List.append_nil]
      have hmg := mergeG_fn pre i hpl hN2 (fun m hm => by
        rw [hpre] at hm
        obtain ⟨q, h1, h2⟩ := rwL_n l _ _ m hm
        have := hok q h1
        omega) (mrg_pos pre 0 (by omega))
      have hps := mcs_scal pre
      have hms := mcs_scal (mrg pre 0)
      have ks1 : allScal (knC is v) = true := by
        unfold knC
        refine allScal_append ?_ (wsv_scal v)
        clear hinv hi
        induction is with
        | nil => rfl
        | cons x l ih => exact ih
      rw [← hpre]
      generalize knC is v = KN at *
      generalize mcs pre = RW at *
      generalize mcs (mrg pre 0) = RM at *
      clear hcl hmay
      (repeat' ((conv => whnf); first | (refine vcall_det (f := 29) hmg [⟨4, 0⟩] [(4, ⟨true, 6, RW⟩)] rfl ⟨rfl, trivial⟩ ⟨rfl, rowM_ro hps, trivial⟩ ⟨rfl, noUp⟩ ?_) | (with_reducible apply sd_draw; · kernel_rfl) | (apply Sd.mk; · first | exact rfl | trivial | omega | (repeat' apply And.intro) <;> first | exact rfl | exact Nat.le_of_ble_eq_true rfl | omega | decide) | ((with_reducible apply Vl.mk (α := Int)); · (first | (with_reducible exact bits_keep _ _ _ _) | ((rewrite [tdiv_pos]); (focus (first | exact wi64 (by omega) (by omega) | exact wu32 (by omega) (by omega) | exact wi32 (by omega) (by omega))); omega) | exact tmod_pos (by omega) | exact wi64 (by omega) (by omega) | exact wu32 (by omega) (by omega) | exact wu32' _ | exact wu8 (by omega) (by omega) | exact wu64 (by omega) (by omega) | exact wi32 (by omega) (by omega) | rfl)) | ((with_reducible first | apply Vl.mk (α := Bool) | apply Vl.mk (α := Nat) | apply Vl.mk (α := ByteArray) | apply Ge.mk (α := Row) | apply Ge.mk (α := SV) | apply Ge.mk (α := AV)); · exact rfl) | (refine And.intro rfl ?_) | ((with_reducible first | apply Vl.mk (α := List SV) | apply Vl.mk (α := Ef) | apply Vl.mk (α := TV) | apply Ge.mk (α := List SV) | apply Sg.mk | apply Sk.mk); · (first | exact setAll_eq rfl | exact sg_all _ rfl | exact sk_all _ rfl rfl | ((first | apply sg_fc | apply sk_fc | (apply fc_eq; (conv => arg 1; whnf); apply fc_some) | apply fc_eq); (repeat' (first | exact fc_ren (wsv_scal _) | exact fc_ren (by assumption) | ((conv => arg 1; whnf); first | exact fc_nil | apply fc_cons | exact fc_int | exact fc_bool | exact fc_n | exact fc_ns | exact fc_ptr | exact fc_sl | exact fc_str | exact fc_unk | exact fc_fn | apply fc_s | apply fc_agg | apply fc_ta | apply fc_tup | exact fc_an | apply fc_ac | exact fc_tu | exact fc_nat | exact fc_bo | exact fc_none | apply fc_some | apply fc_pair | apply fc_row | apply fc_ef))); (all_goals exact rfl)) | ((dsimp only [Res.ef, renT, renA, renS, renN, nwN, upN, renRow, List.map_cons, List.map_nil, List.length_cons, List.length_nil]); first | done | exact rfl) | (dsimp only [setAll, List.set_cons_zero, List.set_cons_succ, List.cons_append, List.nil_append]; exact rfl) | exact rfl)) | ((first | apply Br.mk | apply Gd.mk) <;> (intro hb; first | (exact absurd hb (by decide)) | exact Bool.noConfusion (hb.symm.trans (by assumption) : true = false) | exact Bool.noConfusion (hb.symm.trans (by assumption) : false = true) | (simp only [decide_eq_true_eq, decide_eq_false_iff_not, beq_iff_eq, bne_iff_ne, beq_eq_false_iff_ne, bne_eq_false_iff_eq, Bool.not_eq_true', Bool.not_eq_false', Int.not_lt, Int.not_le, ge_iff_le, gt_iff_lt, ne_eq, Classical.not_not] at hb; first | (exfalso; omega) | skip) | skip)))); (all_goals (try (conv => whnf)))
      all_goals first | (apply Fin.mk (m := [(0, some 0), (1, some _)]); (focus exact rfl); (all_goals ((try (show HlS _ _ [] _)); first | ((repeat' (first | exact SVsM.nil | exact avsm_nil | exact svm_same rfl | exact svm_ptr rfl | exact svm_sl rfl | exact svm_slnil rfl | exact svsm_scal rfl | exact svsm_scal (wsv_scal _) | exact svsm_scal (by assumption) | exact hls_nil | apply SVsM.cons | apply tvm_a | apply tvm_tup | apply avm_agg | apply avm_s | apply avsm_cons | exact trivial | (refine hls_skip rfl ?_) | apply hls_none | apply hls_row | (refine rowmt_mk rfl rfl rfl rfl ?_) | exact rowmt_nil rfl rfl)); done) | exact rfl))) | trace_state
end Go.Proofs.Ytpkbfpjkpiimiaa
