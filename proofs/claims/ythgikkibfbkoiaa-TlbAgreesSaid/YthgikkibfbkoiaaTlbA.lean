/- Buffers of translations: entries, rows of them; Fill of the code. -/
import Derived.Test.YthgikkibfbkoiaaTchA
namespace Go.Proofs.Ythgikkibfbkoiaa
open Go Go.RowKit
set_option linter.unusedSimpArgs false
set_option linter.unusedVariables false

structure Te where
  (p f : Nat) (w x : Bool)
def Te.C (e : Te) : List SV := [.int .u32 e.p, .int .u32 e.f, .bool e.w, .bool e.x]
def tes : List Te → List SV
  | [] => []
  | e :: l => e.C ++ tes l
theorem tes_len : ∀ l : List Te, (tes l).length = l.length * 4
  | [] => rfl
  | m :: l => by show (m.C ++ tes l).length = _; rw [List.length_append, tes_len l]; simp [Te.C]; omega
theorem tes_scal : ∀ l : List Te, allScal (tes l) = true
  | [] => rfl
  | m :: l => tes_scal l
theorem tes_known : ∀ l : List Te, allKnown (tes l) = true
  | [] => rfl
  | m :: l => tes_known l
theorem tes_app : ∀ l l' : List Te, tes (l ++ l') = tes l ++ tes l'
  | [], l' => rfl
  | m :: l, l' => by show m.C ++ tes (l ++ l') = (m.C ++ tes l) ++ tes l'; rw [tes_app l l', List.append_assoc]
theorem tes_at : ∀ (l : List Te) (j : Nat) (m : Te), l[j]? = some m → ∀ i, i < 4 → (tes l)[j * 4 + i]? = (m.C)[i]?
  | m' :: l, 0, m, h, i, hi => by
    injection h with h; subst h
    show (m'.C ++ tes l)[0 * 4 + i]? = _
    rw [Nat.zero_mul, Nat.zero_add, List.getElem?_append_left (by simp [Te.C]; omega)]
  | m' :: l, j + 1, m, h, i, hi => by
    show (m'.C ++ tes l)[(j + 1) * 4 + i]? = _
    rw [List.getElem?_append_right (by simp [Te.C]; omega)]
    have : (j + 1) * 4 + i - (m'.C).length = j * 4 + i := by simp [Te.C]; omega
    rw [this]
    exact tes_at l j m (by simpa using h) i hi
theorem tes_seg (l : List Te) (j : Nat) (m : Te) (h : l[j]? = some m) : (m.C).length = 4 ∧ ∀ (i : Nat) s, (m.C)[i]? = some s → (tes l)[j * 4 + i]? = some s :=
  ⟨rfl, fun i s hs => by
    have hi : i < 4 := (List.getElem?_eq_some_iff.1 hs).1
    rw [tes_at l j m h i hi]; exact hs⟩
/-- The entry of a walk. -/
def frsh (pg F fl : Nat) : Te := ⟨pg, F, (((fl &&& 2 : Nat) : Int) != 0) && (((fl &&& 16 : Nat) : Int) != 0), (((fl &&& 4 : Nat) : Int) != 0)⟩
def tst (N n pg r i : Nat) (TT XX W3 X2 R : List SV) : St :=
  ⟨[(10, .a (.s (.ptr 2 0))), (13, .a (.s (.ptr 3 0))), (14, .a (.s (.sl 4 0 n))), (17, .a (.s (.int .u32 pg))), (19, .a (.s (.sl 5 0 r))), (67, .a (.s (.sl 0 0 N))), (68, .a (.s (.int .i64 N))), (69, .a (.s (.int .i64 i)))],
   [(0, some ⟨false, 4, TT⟩), (1, some ⟨false, 1, XX⟩), (2, some ⟨true, 1, [.int .u32 0, .int .u32 0, .int .i64 0]⟩), (3, some ⟨true, 1, W3⟩), (4, some ⟨true, 1, X2⟩), (5, some ⟨true, 4, R⟩)], [0]⟩
/-- What is kept behind it. -/
def keepT (pg : Nat) : List Te → List Te → List Te
  | [], R => R
  | e :: l, R => if e.p ≠ pg ∧ R.length < 8 then keepT pg l (R ++ [e]) else keepT pg l R
set_option maxHeartbeats 1000000 in
set_option maxRecDepth 100000 in
theorem tfill_ok (t : List Te) (N : Nat) (hN : t.length = N) (hN2 : N ≤ 1000000) (xs : List Nat) (n r va : Nat) (ac : Int) (hl : xs.length = n) (hn : n < 4294967296) (hxr : ∀ y ∈ xs, y < 4294967296) (hr : r < 4294967296) (hva : va < 4294967296) (hw : wlkOk xs n r va ac = true)
    (K : Nat) (L : List Te) (hL : keepT (va / 128) t [frsh (va / 128) (frW (wlkP xs r va)) (tchW (wlkP xs r va) ac)] = L) (hK : L.length = K) :
    Fn Try.prog 13 [.s (.sl 0 0 N), .s (.sl 1 0 n), .s (.int .u32 r), .s (.int .u32 va), .s (.int .i64 ac)] [⟨false, 4, tes t⟩, ⟨false, 1, wsv xs⟩]
      (· = ⟨.tup [.agg (wlkC xs n r va ac), .s (.sl 2 0 K), .s (.sl 3 0 n)], [], [⟨true, 4, tes L⟩, ⟨true, 1, wsv (xs.set (r * 32 + va / 128) (tchW (wlkP xs r va) ac))⟩]⟩) := by
  have hq := hw
  unfold wlkOk at hq
  simp only [Bool.and_eq_true, decide_eq_true_eq] at hq
  obtain ⟨⟨⟨⟨h0, h1⟩, h2⟩, h3⟩, h4⟩ := hq
  have hm := mpg_le n
  have hmn : mpg n * 32 ≤ n := by unfold mpg; split <;> omega
  have he : wlkE r va < 4294967296 ∧ wlkE r va / 4 = r * 32 + va / 128 ∧ ld4 n (wlkE r va) = true := by
    unfold wlkE
    refine ⟨by omega, by omega, ?_⟩
    unfold ld4; rw [decide_eq_true (by omega), decide_eq_true (by omega)]; rfl
  have cw := walkW_fn xs n r va ac hl hn hxr hr hva
  have hCe : wlkC xs n r va ac = [.int .u32 (frW (wlkP xs r va) * 128 + va % 128 : Nat), .int .u32 (wlkE r va : Nat), .int .i64 0] := wlkC_ok h0 h1 h2 h3 h4
  rw [hCe] at cw ⊢
  have ct := touchW_fn xs n (wlkE r va) ac hl hn hxr he.1 he.2.2
  have hp := getD_ltW hxr (r * 32 + va / 128)
  change wlkP xs r va < 4294967296 at hp
  have hfl := tchW_lt (wlkP xs r va) ac hp
  have hF := frW_lt (wlkP xs r va)
  rw [he.2.1] at ct
  change Fn _ _ _ _ (· = ⟨_, _, [⟨true, 1, wsv (xs.set (r * 32 + va / 128) (tchW (wlkP xs r va) ac))⟩]⟩) at ct
  have cl := load4_ok (xs.set (r * 32 + va / 128) (tchW (wlkP xs r va) ac)) n (wlkE r va) (by rw [List.length_set]; exact hl) hn he.1 he.2.2
  rw [he.2.1, show (xs.set (r * 32 + va / 128) (tchW (wlkP xs r va) ac)).getD (r * 32 + va / 128) 0 = tchW (wlkP xs r va) ac by rw [List.getD_eq_getElem?_getD, List.getElem?_set_self (by omega)]; rfl] at cl
  have hs2 := wsv_scal (xs.set (r * 32 + va / 128) (tchW (wlkP xs r va) ac))
  generalize wsv (xs.set (r * 32 + va / 128) (tchW (wlkP xs r va) ac)) = X2 at *
  generalize tchW (wlkP xs r va) ac = fl at *
  have b2 : bits .and .u32 (fl : Int) 2 = ((fl &&& 2 : Nat) : Int) := and_w fl 2 hfl (by omega)
  have b16 : bits .and .u32 (fl : Int) 16 = ((fl &&& 16 : Nat) : Int) := and_w fl 16 hfl (by omega)
  have b4 : bits .and .u32 (fl : Int) 4 = ((fl &&& 4 : Nat) : Int) := and_w fl 4 hfl (by omega)
  have hsx := wsv_scal xs
  have hst := tes_scal t
  generalize frW (wlkP xs r va) = F at *
  generalize wlkE r va = E at *
  have e1 : ((va : Int)) / 128 = ((va / 128 : Nat) : Int) := by omega
  have e1' : IntKind.u32.wrap ((va : Int).tdiv 128) = ((va / 128 : Nat) : Int) := by rw [tdiv_pos (by omega), wu32 (by omega) (by omega)]; omega
  have e2 : IntKind.u32.wrap (((F * 128 + va % 128 : Nat) : Int).tdiv 128) = ((F : Nat) : Int) := by rw [tdiv_pos (by omega), wu32 (by omega) (by omega)]; omega
  generalize wsv xs = XX at *
  generalize hTT : tes t = TT at *
  cases hz : (((fl &&& 2 : Nat) : Int) != 0) with
  | true =>
    have hfr : frsh (va / 128) F fl = ⟨va / 128, F, (((fl &&& 16 : Nat) : Int) != 0), (((fl &&& 4 : Nat) : Int) != 0)⟩ := by unfold frsh; rw [hz]; rfl
    rw [hfr] at hL
    clear hfr
    refine fn_of_vc mixed tys_ok _ _ Try.func13 (by kernel_rfl) rfl Try.ntmps13 (by rw [Try.results13]) rfl ?_; dsimp only [argTm, argHl, Nat.zero_add, Nat.reduceAdd, List.length_nil, List.length_cons]
    (repeat' ((conv => whnf); first | ((with_reducible apply Vl.mk (α := Int)); · with_reducible first | exact e1' | exact e2 | exact b2 | exact b16 | exact b4)  |  (refine vcall_det (f := 20) cw [⟨_, 0⟩] [(_, ⟨false, 1, XX⟩)] rfl ⟨rfl, trivial⟩ ⟨rfl, rowM_ro hsx, trivial⟩ ⟨rfl, noUp⟩ ?_)  |  (refine vcall_det (f := 21) ct [⟨_, 0⟩] [(_, ⟨false, 1, XX⟩)] rfl ⟨rfl, trivial⟩ ⟨rfl, rowM_ro hsx, trivial⟩ ⟨rfl, noUp⟩ ?_)  |  (refine vcall_det (f := 30) cl [⟨_, 0⟩] [(_, ⟨true, 1, X2⟩)] rfl ⟨rfl, trivial⟩ ⟨rfl, rowM_ro hs2, trivial⟩ ⟨rfl, noUp⟩ ?_) | (with_reducible apply sd_draw; · kernel_rfl) | (apply Sd.mk; · first | exact rfl | trivial | omega | (repeat' apply And.intro) <;> first | exact rfl | exact Nat.le_of_ble_eq_true rfl | omega | decide) | ((with_reducible apply Vl.mk (α := Int)); · (first | (with_reducible exact bits_keep _ _ _ _) | ((rewrite [tdiv_pos]); (focus (first | exact wi64 (by omega) (by omega) | exact wu32 (by omega) (by omega) | exact wi32 (by omega) (by omega))); omega) | exact tmod_pos (by omega) | exact wi64 (by omega) (by omega) | exact wu32 (by omega) (by omega) | exact wu32' _ | exact wu8 (by omega) (by omega) | exact wu64 (by omega) (by omega) | exact wi32 (by omega) (by omega) | rfl)) | ((with_reducible first | apply Vl.mk (α := Bool) | apply Vl.mk (α := Nat) | apply Vl.mk (α := ByteArray) | apply Ge.mk (α := Row) | apply Ge.mk (α := SV) | apply Ge.mk (α := AV)); · exact rfl) | (refine And.intro rfl ?_) | ((with_reducible first | apply Vl.mk (α := List SV) | apply Vl.mk (α := Ef) | apply Vl.mk (α := TV) | apply Ge.mk (α := List SV) | apply Sg.mk | apply Sk.mk); · (first | exact setAll_eq rfl | exact sg_all _ rfl | exact sk_all _ rfl rfl | ((first | apply sg_fc | apply sk_fc | (apply fc_eq; (conv => arg 1; whnf); apply fc_some) | apply fc_eq); (repeat' (first | exact fc_ren (wsv_scal _) | exact fc_ren (by assumption) | ((conv => arg 1; whnf); first | exact fc_nil | apply fc_cons | exact fc_int | exact fc_bool | exact fc_n | exact fc_ns | exact fc_ptr | exact fc_sl | exact fc_str | exact fc_unk | exact fc_fn | apply fc_s | apply fc_agg | apply fc_ta | apply fc_tup | exact fc_an | apply fc_ac | exact fc_tu | exact fc_nat | exact fc_bo | exact fc_none | apply fc_some | apply fc_pair | apply fc_row | apply fc_ef))); (all_goals exact rfl)) | ((dsimp only [Res.ef, renT, renA, renS, renN, nwN, upN, renRow, List.map_cons, List.map_nil, List.length_cons, List.length_nil]); first | done | exact rfl) | (dsimp only [setAll, List.set_cons_zero, List.set_cons_succ, List.cons_append, List.nil_append]; exact rfl) | exact rfl)) | ((first | apply Br.mk | apply Gd.mk) <;> (intro hb; first | (exact absurd hb (by decide)) | exact Bool.noConfusion (hb.symm.trans (by assumption) : true = false) | exact Bool.noConfusion (hb.symm.trans (by assumption) : false = true) | (simp only [decide_eq_true_eq, decide_eq_false_iff_not, beq_iff_eq, bne_iff_ne, beq_eq_false_iff_ne, bne_eq_false_iff_eq, Bool.not_eq_true', Bool.not_eq_false', Int.not_lt, Int.not_le, ge_iff_le, gt_iff_lt, ne_eq, Classical.not_not] at hb; first | (exfalso; omega) | skip) | skip)))); (all_goals (try (conv => whnf)))
    refine Lp.inv (fun mm σ => ∃ (i : Nat) (R : List Te), mm + i = N ∧ R.length ≤ i + 1 ∧ keepT (va / 128) (t.drop i) R = L ∧ σ = tst N n (va / 128) R.length i TT XX [.int .u32 (F * 128 + va % 128 : Nat), .int .u32 (E : Nat), .int .i64 0] X2 (tes R)) ?_ ?_
    · refine ⟨N, tst N n (va / 128) 1 0 TT XX [.int .u32 (F * 128 + va % 128 : Nat), .int .u32 (E : Nat), .int .i64 0] X2 (tes [⟨va / 128, F, (((fl &&& 16 : Nat) : Int) != 0), (((fl &&& 4 : Nat) : Int) != 0)⟩]), ?_, 0, [⟨va / 128, F, (((fl &&& 16 : Nat) : Int) != 0), (((fl &&& 4 : Nat) : Int) != 0)⟩], by omega, by simp, hL, rfl⟩
      apply wk_of (m := [(0, some 0), (1, some 1), (2, some 65536), (3, some 131392), (4, some 262400), (5, some 524352)])
      · repeat' (first | exact tml_nil | apply tml_cons)
        all_goals first | exact tvm_a (avm_s (svm_same rfl)) | exact tvm_a (avm_s (svm_ptr rfl)) | exact tvm_a (avm_s (svm_sl rfl))
      · show HlS _ _ [] _
        refine hls_row (rowmt_mk rfl rfl rfl rfl (svsm_scal hst)) ?_
        refine hls_row (rowmt_mk rfl rfl rfl rfl (svsm_scal hsx)) ?_
        refine hls_row (rowmt_mk rfl rfl rfl rfl (svsm_scal rfl)) ?_
        refine hls_row (rowmt_mk rfl rfl rfl rfl (svsm_scal rfl)) ?_
        refine hls_row (rowmt_mk rfl rfl rfl rfl (svsm_scal hs2)) ?_
        refine hls_row (rowmt_mk rfl rfl rfl rfl (svsm_scal rfl)) ?_
        exact hls_nil
      · rfl
    · clear cw ct cl
      rintro mm σ ⟨i, R, hmi, hRi, hinv, rfl⟩
      unfold tst
      by_cases hi : i < N
      · obtain ⟨⟨p', f', w', x'⟩, hm'⟩ : ∃ m, t[i]? = some m := ⟨t[i]'(by omega), List.getElem?_eq_getElem (by omega)⟩
        have hd : t.drop i = ⟨p', f', w', x'⟩ :: t.drop (i + 1) := by
          have hlt := (List.getElem?_eq_some_iff.1 hm').1
          rw [List.drop_eq_getElem_cons hlt]
          congr 1
          exact (List.getElem?_eq_some_iff.1 hm').2
        have seg := tes_seg t i _ hm'
        rw [hTT] at seg
        dsimp only [Te.C] at seg
        have q2 : IntKind.i64.wrap ((i : Int) + 1) = ((i + 1 : Nat) : Int) := by rw [wi64 (by omega) (by omega)]; omega
        have x1 : 0 + ((i : Nat) : Int).toNat * ty26.size = i * 4 := by show 0 + ((i : Nat) : Int).toNat * 4 = _; omega
        rw [hd] at hinv
        change (if p' ≠ va / 128 ∧ R.length < 8 then keepT (va / 128) (t.drop (i + 1)) (R ++ [⟨p', f', w', x'⟩]) else keepT (va / 128) (t.drop (i + 1)) R) = L at hinv
        have hRs := tes_scal R
        have hRl := tes_len R
        have happ : tes R ++ [.int .u32 (p' : Nat), .int .u32 (f' : Nat), .bool w', .bool x'] = tes (R ++ [⟨p', f', w', x'⟩]) := by rw [tes_app]; rfl
        have hRs2 := tes_scal (R ++ [⟨p', f', w', x'⟩])
        by_cases hc : p' ≠ va / 128 ∧ R.length < 8
        · rw [if_pos hc] at hinv
          generalize hR2d : R ++ [(⟨p', f', w', x'⟩ : Te)] = R2 at *
          have hR2l : R2.length = R.length + 1 := by rw [← hR2d]; simp
          generalize hRR : tes R = RR at *
          generalize hRR2 : tes R2 = RR2 at *
          (repeat' ((conv => whnf); first | ((with_reducible apply Vl.mk (α := Int)); · with_reducible first | exact q2)  |  ((with_reducible apply Vl.mk (α := Nat)); · with_reducible exact x1)  |  (apply Sd.mk; · refine ⟨rfl, rfl, ?_, ?_, ?_⟩; (focus (show RR.length = R.length * 4; omega)); (focus (show (R.length + 1) * 12 ≤ _; omega)); (focus omega))  |  ((with_reducible apply Vl.mk (α := List SV)); · exact happ)  |  (apply Sg.mk; · exact seg) | (with_reducible apply sd_draw; · kernel_rfl) | (apply Sd.mk; · first | exact rfl | trivial | omega | (repeat' apply And.intro) <;> first | exact rfl | exact Nat.le_of_ble_eq_true rfl | omega | decide) | ((with_reducible apply Vl.mk (α := Int)); · (first | (with_reducible exact bits_keep _ _ _ _) | ((rewrite [tdiv_pos]); (focus (first | exact wi64 (by omega) (by omega) | exact wu32 (by omega) (by omega) | exact wi32 (by omega) (by omega))); omega) | exact tmod_pos (by omega) | exact wi64 (by omega) (by omega) | exact wu32 (by omega) (by omega) | exact wu32' _ | exact wu8 (by omega) (by omega) | exact wu64 (by omega) (by omega) | exact wi32 (by omega) (by omega) | rfl)) | ((with_reducible first | apply Vl.mk (α := Bool) | apply Vl.mk (α := Nat) | apply Vl.mk (α := ByteArray) | apply Ge.mk (α := Row) | apply Ge.mk (α := SV) | apply Ge.mk (α := AV)); · exact rfl) | (refine And.intro rfl ?_) | ((with_reducible first | apply Vl.mk (α := List SV) | apply Vl.mk (α := Ef) | apply Vl.mk (α := TV) | apply Ge.mk (α := List SV) | apply Sg.mk | apply Sk.mk); · (first | exact setAll_eq rfl | exact sg_all _ rfl | exact sk_all _ rfl rfl | ((first | apply sg_fc | apply sk_fc | (apply fc_eq; (conv => arg 1; whnf); apply fc_some) | apply fc_eq); (repeat' (first | exact fc_ren (wsv_scal _) | exact fc_ren (by assumption) | ((conv => arg 1; whnf); first | exact fc_nil | apply fc_cons | exact fc_int | exact fc_bool | exact fc_n | exact fc_ns | exact fc_ptr | exact fc_sl | exact fc_str | exact fc_unk | exact fc_fn | apply fc_s | apply fc_agg | apply fc_ta | apply fc_tup | exact fc_an | apply fc_ac | exact fc_tu | exact fc_nat | exact fc_bo | exact fc_none | apply fc_some | apply fc_pair | apply fc_row | apply fc_ef))); (all_goals exact rfl)) | ((dsimp only [Res.ef, renT, renA, renS, renN, nwN, upN, renRow, List.map_cons, List.map_nil, List.length_cons, List.length_nil]); first | done | exact rfl) | (dsimp only [setAll, List.set_cons_zero, List.set_cons_succ, List.cons_append, List.nil_append]; exact rfl) | exact rfl)) | ((first | apply Br.mk | apply Gd.mk) <;> (intro hb; first | (exact absurd hb (by decide)) | exact Bool.noConfusion (hb.symm.trans (by assumption) : true = false) | exact Bool.noConfusion (hb.symm.trans (by assumption) : false = true) | (simp only [decide_eq_true_eq, decide_eq_false_iff_not, beq_iff_eq, bne_iff_ne, beq_eq_false_iff_ne, bne_eq_false_iff_eq, Bool.not_eq_true', Bool.not_eq_false', Int.not_lt, Int.not_le, ge_iff_le, gt_iff_lt, ne_eq, Classical.not_not] at hb; first | (exfalso; omega) | skip) | skip)))); (all_goals (try (conv => whnf)))
          all_goals first
            | (refine ⟨mm - 1, tst N n (va / 128) (R.length + 1) (i + 1) TT XX [.int .u32 (F * 128 + va % 128 : Nat), .int .u32 (E : Nat), .int .i64 0] X2 RR2, by omega, ?_, i + 1, R2, by omega, by omega, hinv, by rw [hRR2, hR2l]; rfl⟩
               apply wk_of (m := [(0, some 0), (1, some 1), (2, some 2), (3, some 3), (4, some 4), (5, some _)])
               · repeat' (first | exact tml_nil | apply tml_cons)
                 all_goals first | exact tvm_a (avm_s (svm_same rfl)) | exact tvm_a (avm_s (svm_ptr rfl)) | exact tvm_a (avm_s (svm_sl rfl))
               · show HlS _ _ [] _
                 refine hls_row (rowmt_mk rfl rfl rfl rfl (svsm_scal hst)) ?_
                 refine hls_row (rowmt_mk rfl rfl rfl rfl (svsm_scal hsx)) ?_
                 refine hls_row (rowmt_mk rfl rfl rfl rfl (svsm_scal rfl)) ?_
                 refine hls_row (rowmt_mk rfl rfl rfl rfl (svsm_scal rfl)) ?_
                 refine hls_row (rowmt_mk rfl rfl rfl rfl (svsm_scal hs2)) ?_
                 refine hls_row (rowmt_mk rfl rfl rfl rfl (svsm_scal hRs2)) ?_
                 exact hls_nil
               · rfl
               )
            | trace_state
        · rw [if_neg hc] at hinv
          clear happ hRs2
          generalize hRR : tes R = RR at *
          (repeat' ((conv => whnf); first | ((with_reducible apply Vl.mk (α := Int)); · with_reducible first | exact q2)  |  ((with_reducible apply Vl.mk (α := Nat)); · with_reducible exact x1)  |  (apply Sg.mk; · exact seg) | (with_reducible apply sd_draw; · kernel_rfl) | (apply Sd.mk; · first | exact rfl | trivial | omega | (repeat' apply And.intro) <;> first | exact rfl | exact Nat.le_of_ble_eq_true rfl | omega | decide) | ((with_reducible apply Vl.mk (α := Int)); · (first | (with_reducible exact bits_keep _ _ _ _) | ((rewrite [tdiv_pos]); (focus (first | exact wi64 (by omega) (by omega) | exact wu32 (by omega) (by omega) | exact wi32 (by omega) (by omega))); omega) | exact tmod_pos (by omega) | exact wi64 (by omega) (by omega) | exact wu32 (by omega) (by omega) | exact wu32' _ | exact wu8 (by omega) (by omega) | exact wu64 (by omega) (by omega) | exact wi32 (by omega) (by omega) | rfl)) | ((with_reducible first | apply Vl.mk (α := Bool) | apply Vl.mk (α := Nat) | apply Vl.mk (α := ByteArray) | apply Ge.mk (α := Row) | apply Ge.mk (α := SV) | apply Ge.mk (α := AV)); · exact rfl) | (refine And.intro rfl ?_) | ((with_reducible first | apply Vl.mk (α := List SV) | apply Vl.mk (α := Ef) | apply Vl.mk (α := TV) | apply Ge.mk (α := List SV) | apply Sg.mk | apply Sk.mk); · (first | exact setAll_eq rfl | exact sg_all _ rfl | exact sk_all _ rfl rfl | ((first | apply sg_fc | apply sk_fc | (apply fc_eq; (conv => arg 1; whnf); apply fc_some) | apply fc_eq); (repeat' (first | exact fc_ren (wsv_scal _) | exact fc_ren (by assumption) | ((conv => arg 1; whnf); first | exact fc_nil | apply fc_cons | exact fc_int | exact fc_bool | exact fc_n | exact fc_ns | exact fc_ptr | exact fc_sl | exact fc_str | exact fc_unk | exact fc_fn | apply fc_s | apply fc_agg | apply fc_ta | apply fc_tup | exact fc_an | apply fc_ac | exact fc_tu | exact fc_nat | exact fc_bo | exact fc_none | apply fc_some | apply fc_pair | apply fc_row | apply fc_ef))); (all_goals exact rfl)) | ((dsimp only [Res.ef, renT, renA, renS, renN, nwN, upN, renRow, List.map_cons, List.map_nil, List.length_cons, List.length_nil]); first | done | exact rfl) | (dsimp only [setAll, List.set_cons_zero, List.set_cons_succ, List.cons_append, List.nil_append]; exact rfl) | exact rfl)) | ((first | apply Br.mk | apply Gd.mk) <;> (intro hb; first | (exact absurd hb (by decide)) | exact Bool.noConfusion (hb.symm.trans (by assumption) : true = false) | exact Bool.noConfusion (hb.symm.trans (by assumption) : false = true) | (simp only [decide_eq_true_eq, decide_eq_false_iff_not, beq_iff_eq, bne_iff_ne, beq_eq_false_iff_ne, bne_eq_false_iff_eq, Bool.not_eq_true', Bool.not_eq_false', Int.not_lt, Int.not_le, ge_iff_le, gt_iff_lt, ne_eq, Classical.not_not] at hb; first | (exfalso; omega) | skip) | skip)))); (all_goals (try (conv => whnf)))
          all_goals first
            | (refine ⟨mm - 1, tst N n (va / 128) R.length (i + 1) TT XX [.int .u32 (F * 128 + va % 128 : Nat), .int .u32 (E : Nat), .int .i64 0] X2 RR, by omega, ?_, i + 1, R, by omega, by omega, hinv, by rw [hRR]; rfl⟩
               apply wk_of (m := [(0, some 0), (1, some 1), (2, some 2), (3, some 3), (4, some 4), (5, some 5)])
               · repeat' (first | exact tml_nil | apply tml_cons)
                 all_goals first | exact tvm_a (avm_s (svm_same rfl)) | exact tvm_a (avm_s (svm_ptr rfl)) | exact tvm_a (avm_s (svm_sl rfl))
               · show HlS _ _ [] _
                 refine hls_row (rowmt_mk rfl rfl rfl rfl (svsm_scal hst)) ?_
                 refine hls_row (rowmt_mk rfl rfl rfl rfl (svsm_scal hsx)) ?_
                 refine hls_row (rowmt_mk rfl rfl rfl rfl (svsm_scal rfl)) ?_
                 refine hls_row (rowmt_mk rfl rfl rfl rfl (svsm_scal rfl)) ?_
                 refine hls_row (rowmt_mk rfl rfl rfl rfl (svsm_scal hs2)) ?_
                 refine hls_row (rowmt_mk rfl rfl rfl rfl (svsm_scal hRs)) ?_
                 exact hls_nil
               · rfl
               )
            | trace_state
      · have hdn : t.drop i = [] := List.drop_eq_nil_of_le (by omega)
        rw [hdn] at hinv
        change R = L at hinv
        subst hinv
        subst hK
        have hRs := tes_scal R
        generalize tes R = RR at *
        (repeat' ((conv => whnf); first | (with_reducible apply sd_draw; · kernel_rfl) | (apply Sd.mk; · first | exact rfl | trivial | omega | (repeat' apply And.intro) <;> first | exact rfl | exact Nat.le_of_ble_eq_true rfl | omega | decide) | ((with_reducible apply Vl.mk (α := Int)); · (first | (with_reducible exact bits_keep _ _ _ _) | ((rewrite [tdiv_pos]); (focus (first | exact wi64 (by omega) (by omega) | exact wu32 (by omega) (by omega) | exact wi32 (by omega) (by omega))); omega) | exact tmod_pos (by omega) | exact wi64 (by omega) (by omega) | exact wu32 (by omega) (by omega) | exact wu32' _ | exact wu8 (by omega) (by omega) | exact wu64 (by omega) (by omega) | exact wi32 (by omega) (by omega) | rfl)) | ((with_reducible first | apply Vl.mk (α := Bool) | apply Vl.mk (α := Nat) | apply Vl.mk (α := ByteArray) | apply Ge.mk (α := Row) | apply Ge.mk (α := SV) | apply Ge.mk (α := AV)); · exact rfl) | (refine And.intro rfl ?_) | ((with_reducible first | apply Vl.mk (α := List SV) | apply Vl.mk (α := Ef) | apply Vl.mk (α := TV) | apply Ge.mk (α := List SV) | apply Sg.mk | apply Sk.mk); · (first | exact setAll_eq rfl | exact sg_all _ rfl | exact sk_all _ rfl rfl | ((first | apply sg_fc | apply sk_fc | (apply fc_eq; (conv => arg 1; whnf); apply fc_some) | apply fc_eq); (repeat' (first | exact fc_ren (wsv_scal _) | exact fc_ren (by assumption) | ((conv => arg 1; whnf); first | exact fc_nil | apply fc_cons | exact fc_int | exact fc_bool | exact fc_n | exact fc_ns | exact fc_ptr | exact fc_sl | exact fc_str | exact fc_unk | exact fc_fn | apply fc_s | apply fc_agg | apply fc_ta | apply fc_tup | exact fc_an | apply fc_ac | exact fc_tu | exact fc_nat | exact fc_bo | exact fc_none | apply fc_some | apply fc_pair | apply fc_row | apply fc_ef))); (all_goals exact rfl)) | ((dsimp only [Res.ef, renT, renA, renS, renN, nwN, upN, renRow, List.map_cons, List.map_nil, List.length_cons, List.length_nil]); first | done | exact rfl) | (dsimp only [setAll, List.set_cons_zero, List.set_cons_succ, List.cons_append, List.nil_append]; exact rfl) | exact rfl)) | ((first | apply Br.mk | apply Gd.mk) <;> (intro hb; first | (exact absurd hb (by decide)) | exact Bool.noConfusion (hb.symm.trans (by assumption) : true = false) | exact Bool.noConfusion (hb.symm.trans (by assumption) : false = true) | (simp only [decide_eq_true_eq, decide_eq_false_iff_not, beq_iff_eq, bne_iff_ne, beq_eq_false_iff_ne, bne_eq_false_iff_eq, Bool.not_eq_true', Bool.not_eq_false', Int.not_lt, Int.not_le, ge_iff_le, gt_iff_lt, ne_eq, Classical.not_not] at hb; first | (exfalso; omega) | skip) | skip)))); (all_goals (try (conv => whnf)))
        all_goals first | (apply Fin.mk (m := [(0, some 0), (1, some 1), (2, some 5), (3, some 4)]); (focus exact rfl); (all_goals ((try (show HlS _ _ [] _)); first | ((repeat' (first | exact SVsM.nil | exact avsm_nil | exact svm_same rfl | exact svm_ptr rfl | exact svm_sl rfl | exact svm_slnil rfl | exact svsm_scal rfl | exact svsm_scal (wsv_scal _) | exact svsm_scal (by assumption) | exact hls_nil | apply SVsM.cons | apply tvm_a | apply tvm_tup | apply avm_agg | apply avm_s | apply avsm_cons | exact trivial | (refine hls_skip rfl ?_) | apply hls_none | apply hls_row | (refine rowmt_mk rfl rfl rfl rfl ?_) | exact rowmt_nil rfl rfl)); done) | exact rfl))) | trace_state
  | false =>
    have hfr : frsh (va / 128) F fl = ⟨va / 128, F, false, (((fl &&& 4 : Nat) : Int) != 0)⟩ := by unfold frsh; rw [hz]; rfl
    rw [hfr] at hL
    clear hfr
    refine fn_of_vc mixed tys_ok _ _ Try.func13 (by kernel_rfl) rfl Try.ntmps13 (by rw [Try.results13]) rfl ?_; dsimp only [argTm, argHl, Nat.zero_add, Nat.reduceAdd, List.length_nil, List.length_cons]
    (repeat' ((conv => whnf); first | ((with_reducible apply Vl.mk (α := Int)); · with_reducible first | exact e1' | exact e2 | exact b2 | exact b16 | exact b4)  |  (refine vcall_det (f := 20) cw [⟨_, 0⟩] [(_, ⟨false, 1, XX⟩)] rfl ⟨rfl, trivial⟩ ⟨rfl, rowM_ro hsx, trivial⟩ ⟨rfl, noUp⟩ ?_)  |  (refine vcall_det (f := 21) ct [⟨_, 0⟩] [(_, ⟨false, 1, XX⟩)] rfl ⟨rfl, trivial⟩ ⟨rfl, rowM_ro hsx, trivial⟩ ⟨rfl, noUp⟩ ?_)  |  (refine vcall_det (f := 30) cl [⟨_, 0⟩] [(_, ⟨true, 1, X2⟩)] rfl ⟨rfl, trivial⟩ ⟨rfl, rowM_ro hs2, trivial⟩ ⟨rfl, noUp⟩ ?_) | (with_reducible apply sd_draw; · kernel_rfl) | (apply Sd.mk; · first | exact rfl | trivial | omega | (repeat' apply And.intro) <;> first | exact rfl | exact Nat.le_of_ble_eq_true rfl | omega | decide) | ((with_reducible apply Vl.mk (α := Int)); · (first | (with_reducible exact bits_keep _ _ _ _) | ((rewrite [tdiv_pos]); (focus (first | exact wi64 (by omega) (by omega) | exact wu32 (by omega) (by omega) | exact wi32 (by omega) (by omega))); omega) | exact tmod_pos (by omega) | exact wi64 (by omega) (by omega) | exact wu32 (by omega) (by omega) | exact wu32' _ | exact wu8 (by omega) (by omega) | exact wu64 (by omega) (by omega) | exact wi32 (by omega) (by omega) | rfl)) | ((with_reducible first | apply Vl.mk (α := Bool) | apply Vl.mk (α := Nat) | apply Vl.mk (α := ByteArray) | apply Ge.mk (α := Row) | apply Ge.mk (α := SV) | apply Ge.mk (α := AV)); · exact rfl) | (refine And.intro rfl ?_) | ((with_reducible first | apply Vl.mk (α := List SV) | apply Vl.mk (α := Ef) | apply Vl.mk (α := TV) | apply Ge.mk (α := List SV) | apply Sg.mk | apply Sk.mk); · (first | exact setAll_eq rfl | exact sg_all _ rfl | exact sk_all _ rfl rfl | ((first | apply sg_fc | apply sk_fc | (apply fc_eq; (conv => arg 1; whnf); apply fc_some) | apply fc_eq); (repeat' (first | exact fc_ren (wsv_scal _) | exact fc_ren (by assumption) | ((conv => arg 1; whnf); first | exact fc_nil | apply fc_cons | exact fc_int | exact fc_bool | exact fc_n | exact fc_ns | exact fc_ptr | exact fc_sl | exact fc_str | exact fc_unk | exact fc_fn | apply fc_s | apply fc_agg | apply fc_ta | apply fc_tup | exact fc_an | apply fc_ac | exact fc_tu | exact fc_nat | exact fc_bo | exact fc_none | apply fc_some | apply fc_pair | apply fc_row | apply fc_ef))); (all_goals exact rfl)) | ((dsimp only [Res.ef, renT, renA, renS, renN, nwN, upN, renRow, List.map_cons, List.map_nil, List.length_cons, List.length_nil]); first | done | exact rfl) | (dsimp only [setAll, List.set_cons_zero, List.set_cons_succ, List.cons_append, List.nil_append]; exact rfl) | exact rfl)) | ((first | apply Br.mk | apply Gd.mk) <;> (intro hb; first | (exact absurd hb (by decide)) | exact Bool.noConfusion (hb.symm.trans (by assumption) : true = false) | exact Bool.noConfusion (hb.symm.trans (by assumption) : false = true) | (simp only [decide_eq_true_eq, decide_eq_false_iff_not, beq_iff_eq, bne_iff_ne, beq_eq_false_iff_ne, bne_eq_false_iff_eq, Bool.not_eq_true', Bool.not_eq_false', Int.not_lt, Int.not_le, ge_iff_le, gt_iff_lt, ne_eq, Classical.not_not] at hb; first | (exfalso; omega) | skip) | skip)))); (all_goals (try (conv => whnf)))
    refine Lp.inv (fun mm σ => ∃ (i : Nat) (R : List Te), mm + i = N ∧ R.length ≤ i + 1 ∧ keepT (va / 128) (t.drop i) R = L ∧ σ = tst N n (va / 128) R.length i TT XX [.int .u32 (F * 128 + va % 128 : Nat), .int .u32 (E : Nat), .int .i64 0] X2 (tes R)) ?_ ?_
    · refine ⟨N, tst N n (va / 128) 1 0 TT XX [.int .u32 (F * 128 + va % 128 : Nat), .int .u32 (E : Nat), .int .i64 0] X2 (tes [⟨va / 128, F, false, (((fl &&& 4 : Nat) : Int) != 0)⟩]), ?_, 0, [⟨va / 128, F, false, (((fl &&& 4 : Nat) : Int) != 0)⟩], by omega, by simp, hL, rfl⟩
      apply wk_of (m := [(0, some 0), (1, some 1), (2, some 65536), (3, some 131392), (4, some 262400), (5, some 524352)])
      · repeat' (first | exact tml_nil | apply tml_cons)
        all_goals first | exact tvm_a (avm_s (svm_same rfl)) | exact tvm_a (avm_s (svm_ptr rfl)) | exact tvm_a (avm_s (svm_sl rfl))
      · show HlS _ _ [] _
        refine hls_row (rowmt_mk rfl rfl rfl rfl (svsm_scal hst)) ?_
        refine hls_row (rowmt_mk rfl rfl rfl rfl (svsm_scal hsx)) ?_
        refine hls_row (rowmt_mk rfl rfl rfl rfl (svsm_scal rfl)) ?_
        refine hls_row (rowmt_mk rfl rfl rfl rfl (svsm_scal rfl)) ?_
        refine hls_row (rowmt_mk rfl rfl rfl rfl (svsm_scal hs2)) ?_
        refine hls_row (rowmt_mk rfl rfl rfl rfl (svsm_scal rfl)) ?_
        exact hls_nil
      · rfl
    · clear cw ct cl
      rintro mm σ ⟨i, R, hmi, hRi, hinv, rfl⟩
      unfold tst
      by_cases hi : i < N
      · obtain ⟨⟨p', f', w', x'⟩, hm'⟩ : ∃ m, t[i]? = some m := ⟨t[i]'(by omega), List.getElem?_eq_getElem (by omega)⟩
        have hd : t.drop i = ⟨p', f', w', x'⟩ :: t.drop (i + 1) := by
          have hlt := (List.getElem?_eq_some_iff.1 hm').1
          rw [List.drop_eq_getElem_cons hlt]
          congr 1
          exact (List.getElem?_eq_some_iff.1 hm').2
        have seg := tes_seg t i _ hm'
        rw [hTT] at seg
        dsimp only [Te.C] at seg
        have q2 : IntKind.i64.wrap ((i : Int) + 1) = ((i + 1 : Nat) : Int) := by rw [wi64 (by omega) (by omega)]; omega
        have x1 : 0 + ((i : Nat) : Int).toNat * ty26.size = i * 4 := by show 0 + ((i : Nat) : Int).toNat * 4 = _; omega
        rw [hd] at hinv
        change (if p' ≠ va / 128 ∧ R.length < 8 then keepT (va / 128) (t.drop (i + 1)) (R ++ [⟨p', f', w', x'⟩]) else keepT (va / 128) (t.drop (i + 1)) R) = L at hinv
        have hRs := tes_scal R
        have hRl := tes_len R
        have happ : tes R ++ [.int .u32 (p' : Nat), .int .u32 (f' : Nat), .bool w', .bool x'] = tes (R ++ [⟨p', f', w', x'⟩]) := by rw [tes_app]; rfl
        have hRs2 := tes_scal (R ++ [⟨p', f', w', x'⟩])
        by_cases hc : p' ≠ va / 128 ∧ R.length < 8
        · rw [if_pos hc] at hinv
          generalize hR2d : R ++ [(⟨p', f', w', x'⟩ : Te)] = R2 at *
          have hR2l : R2.length = R.length + 1 := by rw [← hR2d]; simp
          generalize hRR : tes R = RR at *
          generalize hRR2 : tes R2 = RR2 at *
          (repeat' ((conv => whnf); first | ((with_reducible apply Vl.mk (α := Int)); · with_reducible first | exact q2)  |  ((with_reducible apply Vl.mk (α := Nat)); · with_reducible exact x1)  |  (apply Sd.mk; · refine ⟨rfl, rfl, ?_, ?_, ?_⟩; (focus (show RR.length = R.length * 4; omega)); (focus (show (R.length + 1) * 12 ≤ _; omega)); (focus omega))  |  ((with_reducible apply Vl.mk (α := List SV)); · exact happ)  |  (apply Sg.mk; · exact seg) | (with_reducible apply sd_draw; · kernel_rfl) | (apply Sd.mk; · first | exact rfl | trivial | omega | (repeat' apply And.intro) <;> first | exact rfl | exact Nat.le_of_ble_eq_true rfl | omega | decide) | ((with_reducible apply Vl.mk (α := Int)); · (first | (with_reducible exact bits_keep _ _ _ _) | ((rewrite [tdiv_pos]); (focus (first | exact wi64 (by omega) (by omega) | exact wu32 (by omega) (by omega) | exact wi32 (by omega) (by omega))); omega) | exact tmod_pos (by omega) | exact wi64 (by omega) (by omega) | exact wu32 (by omega) (by omega) | exact wu32' _ | exact wu8 (by omega) (by omega) | exact wu64 (by omega) (by omega) | exact wi32 (by omega) (by omega) | rfl)) | ((with_reducible first | apply Vl.mk (α := Bool) | apply Vl.mk (α := Nat) | apply Vl.mk (α := ByteArray) | apply Ge.mk (α := Row) | apply Ge.mk (α := SV) | apply Ge.mk (α := AV)); · exact rfl) | (refine And.intro rfl ?_) | ((with_reducible first | apply Vl.mk (α := List SV) | apply Vl.mk (α := Ef) | apply Vl.mk (α := TV) | apply Ge.mk (α := List SV) | apply Sg.mk | apply Sk.mk); · (first | exact setAll_eq rfl | exact sg_all _ rfl | exact sk_all _ rfl rfl | ((first | apply sg_fc | apply sk_fc | (apply fc_eq; (conv => arg 1; whnf); apply fc_some) | apply fc_eq); (repeat' (first | exact fc_ren (wsv_scal _) | exact fc_ren (by assumption) | ((conv => arg 1; whnf); first | exact fc_nil | apply fc_cons | exact fc_int | exact fc_bool | exact fc_n | exact fc_ns | exact fc_ptr | exact fc_sl | exact fc_str | exact fc_unk | exact fc_fn | apply fc_s | apply fc_agg | apply fc_ta | apply fc_tup | exact fc_an | apply fc_ac | exact fc_tu | exact fc_nat | exact fc_bo | exact fc_none | apply fc_some | apply fc_pair | apply fc_row | apply fc_ef))); (all_goals exact rfl)) | ((dsimp only [Res.ef, renT, renA, renS, renN, nwN, upN, renRow, List.map_cons, List.map_nil, List.length_cons, List.length_nil]); first | done | exact rfl) | (dsimp only [setAll, List.set_cons_zero, List.set_cons_succ, List.cons_append, List.nil_append]; exact rfl) | exact rfl)) | ((first | apply Br.mk | apply Gd.mk) <;> (intro hb; first | (exact absurd hb (by decide)) | exact Bool.noConfusion (hb.symm.trans (by assumption) : true = false) | exact Bool.noConfusion (hb.symm.trans (by assumption) : false = true) | (simp only [decide_eq_true_eq, decide_eq_false_iff_not, beq_iff_eq, bne_iff_ne, beq_eq_false_iff_ne, bne_eq_false_iff_eq, Bool.not_eq_true', Bool.not_eq_false', Int.not_lt, Int.not_le, ge_iff_le, gt_iff_lt, ne_eq, Classical.not_not] at hb; first | (exfalso; omega) | skip) | skip)))); (all_goals (try (conv => whnf)))
          all_goals first
            | (refine ⟨mm - 1, tst N n (va / 128) (R.length + 1) (i + 1) TT XX [.int .u32 (F * 128 + va % 128 : Nat), .int .u32 (E : Nat), .int .i64 0] X2 RR2, by omega, ?_, i + 1, R2, by omega, by omega, hinv, by rw [hRR2, hR2l]; rfl⟩
               apply wk_of (m := [(0, some 0), (1, some 1), (2, some 2), (3, some 3), (4, some 4), (5, some _)])
               · repeat' (first | exact tml_nil | apply tml_cons)
                 all_goals first | exact tvm_a (avm_s (svm_same rfl)) | exact tvm_a (avm_s (svm_ptr rfl)) | exact tvm_a (avm_s (svm_sl rfl))
               · show HlS _ _ [] _
                 refine hls_row (rowmt_mk rfl rfl rfl rfl (svsm_scal hst)) ?_
                 refine hls_row (rowmt_mk rfl rfl rfl rfl (svsm_scal hsx)) ?_
                 refine hls_row (rowmt_mk rfl rfl rfl rfl (svsm_scal rfl)) ?_
                 refine hls_row (rowmt_mk rfl rfl rfl rfl (svsm_scal rfl)) ?_
                 refine hls_row (rowmt_mk rfl rfl rfl rfl (svsm_scal hs2)) ?_
                 refine hls_row (rowmt_mk rfl rfl rfl rfl (svsm_scal hRs2)) ?_
                 exact hls_nil
               · rfl
               )
            | trace_state
        · rw [if_neg hc] at hinv
          clear happ hRs2
          generalize hRR : tes R = RR at *
          (repeat' ((conv => whnf); first | ((with_reducible apply Vl.mk (α := Int)); · with_reducible first | exact q2)  |  ((with_reducible apply Vl.mk (α := Nat)); · with_reducible exact x1)  |  (apply Sg.mk; · exact seg) | (with_reducible apply sd_draw; · kernel_rfl) | (apply Sd.mk; · first | exact rfl | trivial | omega | (repeat' apply And.intro) <;> first | exact rfl | exact Nat.le_of_ble_eq_true rfl | omega | decide) | ((with_reducible apply Vl.mk (α := Int)); · (first | (with_reducible exact bits_keep _ _ _ _) | ((rewrite [tdiv_pos]); (focus (first | exact wi64 (by omega) (by omega) | exact wu32 (by omega) (by omega) | exact wi32 (by omega) (by omega))); omega) | exact tmod_pos (by omega) | exact wi64 (by omega) (by omega) | exact wu32 (by omega) (by omega) | exact wu32' _ | exact wu8 (by omega) (by omega) | exact wu64 (by omega) (by omega) | exact wi32 (by omega) (by omega) | rfl)) | ((with_reducible first | apply Vl.mk (α := Bool) | apply Vl.mk (α := Nat) | apply Vl.mk (α := ByteArray) | apply Ge.mk (α := Row) | apply Ge.mk (α := SV) | apply Ge.mk (α := AV)); · exact rfl) | (refine And.intro rfl ?_) | ((with_reducible first | apply Vl.mk (α := List SV) | apply Vl.mk (α := Ef) | apply Vl.mk (α := TV) | apply Ge.mk (α := List SV) | apply Sg.mk | apply Sk.mk); · (first | exact setAll_eq rfl | exact sg_all _ rfl | exact sk_all _ rfl rfl | ((first | apply sg_fc | apply sk_fc | (apply fc_eq; (conv => arg 1; whnf); apply fc_some) | apply fc_eq); (repeat' (first | exact fc_ren (wsv_scal _) | exact fc_ren (by assumption) | ((conv => arg 1; whnf); first | exact fc_nil | apply fc_cons | exact fc_int | exact fc_bool | exact fc_n | exact fc_ns | exact fc_ptr | exact fc_sl | exact fc_str | exact fc_unk | exact fc_fn | apply fc_s | apply fc_agg | apply fc_ta | apply fc_tup | exact fc_an | apply fc_ac | exact fc_tu | exact fc_nat | exact fc_bo | exact fc_none | apply fc_some | apply fc_pair | apply fc_row | apply fc_ef))); (all_goals exact rfl)) | ((dsimp only [Res.ef, renT, renA, renS, renN, nwN, upN, renRow, List.map_cons, List.map_nil, List.length_cons, List.length_nil]); first | done | exact rfl) | (dsimp only [setAll, List.set_cons_zero, List.set_cons_succ, List.cons_append, List.nil_append]; exact rfl) | exact rfl)) | ((first | apply Br.mk | apply Gd.mk) <;> (intro hb; first | (exact absurd hb (by decide)) | exact Bool.noConfusion (hb.symm.trans (by assumption) : true = false) | exact Bool.noConfusion (hb.symm.trans (by assumption) : false = true) | (simp only [decide_eq_true_eq, decide_eq_false_iff_not, beq_iff_eq, bne_iff_ne, beq_eq_false_iff_ne, bne_eq_false_iff_eq, Bool.not_eq_true', Bool.not_eq_false', Int.not_lt, Int.not_le, ge_iff_le, gt_iff_lt, ne_eq, Classical.not_not] at hb; first | (exfalso; omega) | skip) | skip)))); (all_goals (try (conv => whnf)))
          all_goals first
            | (refine ⟨mm - 1, tst N n (va / 128) R.length (i + 1) TT XX [.int .u32 (F * 128 + va % 128 : Nat), .int .u32 (E : Nat), .int .i64 0] X2 RR, by omega, ?_, i + 1, R, by omega, by omega, hinv, by rw [hRR]; rfl⟩
               apply wk_of (m := [(0, some 0), (1, some 1), (2, some 2), (3, some 3), (4, some 4), (5, some 5)])
               · repeat' (first | exact tml_nil | apply tml_cons)
                 all_goals first | exact tvm_a (avm_s (svm_same rfl)) | exact tvm_a (avm_s (svm_ptr rfl)) | exact tvm_a (avm_s (svm_sl rfl))
               · show HlS _ _ [] _
                 refine hls_row (rowmt_mk rfl rfl rfl rfl (svsm_scal hst)) ?_
                 refine hls_row (rowmt_mk rfl rfl rfl rfl (svsm_scal hsx)) ?_
                 refine hls_row (rowmt_mk rfl rfl rfl rfl (svsm_scal rfl)) ?_
                 refine hls_row (rowmt_mk rfl rfl rfl rfl (svsm_scal rfl)) ?_
                 refine hls_row (rowmt_mk rfl rfl rfl rfl (svsm_scal hs2)) ?_
                 refine hls_row (rowmt_mk rfl rfl rfl rfl (svsm_scal hRs)) ?_
                 exact hls_nil
               · rfl
               )
            | trace_state
      · have hdn : t.drop i = [] := List.drop_eq_nil_of_le (by omega)
        rw [hdn] at hinv
        change R = L at hinv
        subst hinv
        subst hK
        have hRs := tes_scal R
        generalize tes R = RR at *
        (repeat' ((conv => whnf); first | (with_reducible apply sd_draw; · kernel_rfl) | (apply Sd.mk; · first | exact rfl | trivial | omega | (repeat' apply And.intro) <;> first | exact rfl | exact Nat.le_of_ble_eq_true rfl | omega | decide) | ((with_reducible apply Vl.mk (α := Int)); · (first | (with_reducible exact bits_keep _ _ _ _) | ((rewrite [tdiv_pos]); (focus (first | exact wi64 (by omega) (by omega) | exact wu32 (by omega) (by omega) | exact wi32 (by omega) (by omega))); omega) | exact tmod_pos (by omega) | exact wi64 (by omega) (by omega) | exact wu32 (by omega) (by omega) | exact wu32' _ | exact wu8 (by omega) (by omega) | exact wu64 (by omega) (by omega) | exact wi32 (by omega) (by omega) | rfl)) | ((with_reducible first | apply Vl.mk (α := Bool) | apply Vl.mk (α := Nat) | apply Vl.mk (α := ByteArray) | apply Ge.mk (α := Row) | apply Ge.mk (α := SV) | apply Ge.mk (α := AV)); · exact rfl) | (refine And.intro rfl ?_) | ((with_reducible first | apply Vl.mk (α := List SV) | apply Vl.mk (α := Ef) | apply Vl.mk (α := TV) | apply Ge.mk (α := List SV) | apply Sg.mk | apply Sk.mk); · (first | exact setAll_eq rfl | exact sg_all _ rfl | exact sk_all _ rfl rfl | ((first | apply sg_fc | apply sk_fc | (apply fc_eq; (conv => arg 1; whnf); apply fc_some) | apply fc_eq); (repeat' (first | exact fc_ren (wsv_scal _) | exact fc_ren (by assumption) | ((conv => arg 1; whnf); first | exact fc_nil | apply fc_cons | exact fc_int | exact fc_bool | exact fc_n | exact fc_ns | exact fc_ptr | exact fc_sl | exact fc_str | exact fc_unk | exact fc_fn | apply fc_s | apply fc_agg | apply fc_ta | apply fc_tup | exact fc_an | apply fc_ac | exact fc_tu | exact fc_nat | exact fc_bo | exact fc_none | apply fc_some | apply fc_pair | apply fc_row | apply fc_ef))); (all_goals exact rfl)) | ((dsimp only [Res.ef, renT, renA, renS, renN, nwN, upN, renRow, List.map_cons, List.map_nil, List.length_cons, List.length_nil]); first | done | exact rfl) | (dsimp only [setAll, List.set_cons_zero, List.set_cons_succ, List.cons_append, List.nil_append]; exact rfl) | exact rfl)) | ((first | apply Br.mk | apply Gd.mk) <;> (intro hb; first | (exact absurd hb (by decide)) | exact Bool.noConfusion (hb.symm.trans (by assumption) : true = false) | exact Bool.noConfusion (hb.symm.trans (by assumption) : false = true) | (simp only [decide_eq_true_eq, decide_eq_false_iff_not, beq_iff_eq, bne_iff_ne, beq_eq_false_iff_ne, bne_eq_false_iff_eq, Bool.not_eq_true', Bool.not_eq_false', Int.not_lt, Int.not_le, ge_iff_le, gt_iff_lt, ne_eq, Classical.not_not] at hb; first | (exfalso; omega) | skip) | skip)))); (all_goals (try (conv => whnf)))
        all_goals first | (apply Fin.mk (m := [(0, some 0), (1, some 1), (2, some 5), (3, some 4)]); (focus exact rfl); (all_goals ((try (show HlS _ _ [] _)); first | ((repeat' (first | exact SVsM.nil | exact avsm_nil | exact svm_same rfl | exact svm_ptr rfl | exact svm_sl rfl | exact svm_slnil rfl | exact svsm_scal rfl | exact svsm_scal (wsv_scal _) | exact svsm_scal (by assumption) | exact hls_nil | apply SVsM.cons | apply tvm_a | apply tvm_tup | apply avm_agg | apply avm_s | apply avsm_cons | exact trivial | (refine hls_skip rfl ?_) | apply hls_none | apply hls_row | (refine rowmt_mk rfl rfl rfl rfl ?_) | exact rowmt_nil rfl rfl)); done) | exact rfl))) | trace_state
end Go.Proofs.Ythgikkibfbkoiaa
