/- Run, of both sides. Printed by mkrn2.py. -/
import Derived.Test.YtpkbfpjkpiimiaaRnA
namespace Go.Proofs.Ytpkbfpjkpiimiaa
open Go Go.RowKit
set_option linter.unusedSimpArgs false
set_option linter.unusedVariables false

def vM (m : Mi) (x : List Nat) : Nat := if m.o = 24 then m.k else aluN m.o (x.getD m.b 0) (if thrB m.o then x.getD m.c 0 else m.k)
def stM (m : Mi) (x : List Nat) : List Nat := if m.a = 0 then x else x.set m.a (vM m x)
def runL : List Mi → List Nat → List Nat
  | [], x => x
  | m :: l, x => runL l (stM m x)
theorem stM_len (m : Mi) (x : List Nat) : (stM m x).length = x.length := by unfold stM; split <;> simp
theorem set_rng {x : List Nat} {j v : Nat} (h : ∀ y ∈ x, y < 4294967296) (hv : v < 4294967296) : ∀ y ∈ x.set j v, y < 4294967296 := fun y hy => by
  rcases List.mem_or_eq_of_mem_set hy with h1 | h1
  · exact h y h1
  · subst h1; exact hv
theorem vM_rng (m : Mi) (x : List Nat) (h : ∀ y ∈ x, y < 4294967296) (hk : m.k < 4294967296) : vM m x < 4294967296 := by
  have g := getD_lt h
  have gb := g m.b
  have gc := g m.c
  unfold vM
  split
  · exact hk
  · split
    · exact aluN_lt _ _ _ gb gc
    · exact aluN_lt _ _ _ gb hk
theorem stM_rng (m : Mi) (x : List Nat) (h : ∀ y ∈ x, y < 4294967296) (hk : m.k < 4294967296) : ∀ y ∈ stM m x, y < 4294967296 := by
  unfold stM
  split
  · exact h
  · exact set_rng h (vM_rng m x h hk)
theorem wsv_get3 (y : List Nat) (b : Nat) (hb : b < y.length) : (wsv y)[0 + ((b : Nat) : Int).toNat * ty22.size]? = some (.int .u32 (y.getD b 0 : Nat)) := by
  have e : 0 + ((b : Nat) : Int).toNat * ty22.size = b := by show 0 + ((b : Nat) : Int).toNat * 1 = b; omega
  rw [e]; exact wsv_get y b hb
theorem wsv_set3 (y : List Nat) (a w : Nat) (ha : a < y.length) : setAll (wsv y) (0 + ((a : Nat) : Int).toNat * ty22.size) [.int .u32 (w : Nat)] = wsv (y.set a w) := by
  have e : 0 + ((a : Nat) : Int).toNat * ty22.size = a := by show 0 + ((a : Nat) : Int).toNat * 1 = a; omega
  rw [e]
  apply List.ext_getElem?
  intro i
  rw [setAll_get _ _ _ _ (by simp; omega)]
  unfold wsv
  simp only [List.length_cons, List.length_nil, Nat.zero_add]
  by_cases h : i = a
  · subst h
    rw [if_pos (by omega), List.getElem?_map, List.getElem?_set_self (by omega)]
    simp
  · rw [if_neg (by omega), List.getElem?_map, List.getElem?_map, List.getElem?_set_ne (by omega)]
theorem purL_mem {l : List Mi} (h : purL (l.map Mi.z) = true) : ∀ m ∈ l, m.o = 24 ∨ aluB m.o = true := fun m hm => by
  unfold purL at h
  rw [List.all_eq_true] at h
  have := h m.z (List.mem_map_of_mem hm)
  rw [Bool.or_eq_true, decide_eq_true_eq] at this
  exact this
def rust (N A : Nat) (L : Int) (LL : List SV) (i : Nat) (Y : List SV) : St :=
  ⟨[(2, .a (.s (.ptr 1 0))), (3, .a (.s (.ptr 2 0))), (4, .a (.s (.ptr 3 0))), (14, .a (.s (.sl 0 0 N))), (15, .a (.s (.int .i64 N))), (16, .a (.s (.int .i64 i)))],
   [(0, some ⟨false, 6, LL⟩), (1, some ⟨true, 1, [.int .u32 A, .int .i64 L, .sl 0 0 N]⟩), (2, some ⟨true, 1, Y⟩), (3, some ⟨true, 1, [.int .u32 0, .int .u32 0, .int .u32 0, .int .u32 0, .int .u32 0, .int .u32 0, .int .u32 0, .int .u32 0, .int .u32 0, .int .u32 0, .int .u32 0, .int .u32 0, .int .u32 0, .int .u32 0, .int .u32 0, .int .u32 0]⟩)], [0]⟩
set_option maxHeartbeats 1000000 in
set_option maxRecDepth 100000 in
theorem orunN_fn (A : Nat) (hA : A < 4294967296) (L : Int) (l : List Mz) (N : Nat) (hN : l.length = N) (hN2 : N ≤ 1000000) (x : List Nat) (hx : x.length = 16) (hp : pureV A L l = false) :
    Fn Try.prog 18 [.agg [.int .u32 A, .int .i64 L, .sl 0 0 N], .agg (wsv x)] [⟨false, 6, mzs l⟩] (· = ⟨.a (.agg (wsv (x.set 0 0))), [], []⟩) := by
  have hsc := mzs_scal l
  have cp := pure_fn A hA L l N hN hN2
  rw [hp] at cp
  have hset : setAll (wsv x) (0 + ((0 : Int)).toNat * ty22.size) [absS (Value.int .u32 0)] = wsv (x.set 0 0) := wsv_set3 x 0 0 (by omega)
  have xl : (wsv x).length = 16 := by simp [hx]
  have yl : (wsv (x.set 0 0)).length = 16 := by simp [hx]
  have xk := wsv_known x
  have yk := wsv_known (x.set 0 0)
  have ysc := wsv_scal (x.set 0 0)
  have hall : ∀ M : List SV, M.length = 16 → setAll M 0 (wsv (x.set 0 0)) = wsv (x.set 0 0) := fun M hM => setAll_all (by rw [hM, yl])
  generalize mzs l = LL at *
  generalize wsv (x.set 0 0) = Y at *
  generalize wsv x = X at *
  refine fn_of_vc mixed tys_ok _ _ Try.func18 (by kernel_rfl) rfl Try.ntmps18 (by rw [Try.results18]) rfl ?_; dsimp only [argTm, argHl, Nat.zero_add, Nat.reduceAdd, List.length_nil, List.length_cons]
  (repeat' ((conv => whnf); first | (refine vcall_det (f := 16) cp [⟨0, 0⟩] [(0, ⟨false, 6, LL⟩)] rfl ⟨rfl, trivial⟩ ⟨rfl, rowM_ro hsc, trivial⟩ ⟨rfl, noUp⟩ ?_)  |  (apply Sd.mk; · first | exact xk | exact yk | exact ⟨yl, yk, rfl, by show 0 + Y.length ≤ 16; omega⟩ | (refine ⟨rfl, rfl, rfl, ?_⟩; show 0 + ((0 : Int)).toNat * 1 + 1 ≤ X.length; simp; omega))  |  ((with_reducible apply Vl.mk (α := List SV)); · first | (with_reducible exact hset) | ((with_reducible refine hall _ ?_); (focus exact rfl)))  |  (apply Sg.mk; · exact sg_all Y yl) | (with_reducible apply sd_draw; · kernel_rfl) | (apply Sd.mk; · first | exact rfl | trivial | omega | (repeat' apply And.intro) <;> first | exact rfl | exact Nat.le_of_ble_eq_true rfl | omega | decide) | ((with_reducible apply Vl.mk (α := Int)); · (first | (with_reducible exact bits_keep _ _ _ _) | ((rewrite [tdiv_pos]); (focus (first | exact wi64 (by omega) (by omega) | exact wu32 (by omega) (by omega) | exact wi32 (by omega) (by omega))); omega) | exact tmod_pos (by omega) | exact wi64 (by omega) (by omega) | exact wu32 (by omega) (by omega) | exact wu32' _ | exact wu8 (by omega) (by omega) | exact wu64 (by omega) (by omega) | exact wi32 (by omega) (by omega) | rfl)) | ((with_reducible first | apply Vl.mk (α := Bool) | apply Vl.mk (α := Nat) | apply Vl.mk (α := ByteArray) | apply Ge.mk (α := Row) | apply Ge.mk (α := SV) | apply Ge.mk (α := AV)); · exact rfl) | (refine And.intro rfl ?_) | ((with_reducible first | apply Vl.mk (α := List SV) | apply Vl.mk (α := Ef) | apply Vl.mk (α := TV) | apply Ge.mk (α := List SV) | apply Sg.mk | apply Sk.mk); · (first | exact setAll_eq rfl | exact sg_all _ rfl | exact sk_all _ rfl rfl | ((first | apply sg_fc | apply sk_fc | (apply fc_eq; (conv => arg 1; whnf); apply fc_some) | apply fc_eq); (repeat' (first | exact fc_ren (wsv_scal _) | exact fc_ren (by assumption) | ((conv => arg 1; whnf); first | exact fc_nil | apply fc_cons | exact fc_int | exact fc_bool | exact fc_n | exact fc_ns | exact fc_ptr | exact fc_sl | exact fc_str | exact fc_unk | exact fc_fn | apply fc_s | apply fc_agg | apply fc_ta | apply fc_tup | exact fc_an | apply fc_ac | exact fc_tu | exact fc_nat | exact fc_bo | exact fc_none | apply fc_some | apply fc_pair | apply fc_row | apply fc_ef))); (all_goals exact rfl)) | ((dsimp only [Res.ef, renT, renA, renS, renN, nwN, upN, renRow, List.map_cons, List.map_nil, List.length_cons, List.length_nil]); first | done | exact rfl) | (dsimp only [setAll, List.set_cons_zero, List.set_cons_succ, List.cons_append, List.nil_append]; exact rfl) | exact rfl)) | ((first | apply Br.mk | apply Gd.mk) <;> (intro hb; first | (exact absurd hb (by decide)) | exact Bool.noConfusion (hb.symm.trans (by assumption) : true = false) | exact Bool.noConfusion (hb.symm.trans (by assumption) : false = true) | (simp only [decide_eq_true_eq, decide_eq_false_iff_not, beq_iff_eq, bne_iff_ne, beq_eq_false_iff_ne, bne_eq_false_iff_eq, Bool.not_eq_true', Bool.not_eq_false', Int.not_lt, Int.not_le, ge_iff_le, gt_iff_lt, ne_eq, Classical.not_not] at hb; first | (exfalso; omega) | skip) | skip)))); (all_goals (try (conv => whnf)))
  all_goals first | ((apply Fin.mk (m := [(0, some 0)]); (focus exact rfl); (all_goals ((try (show HlS _ _ [] _)); first | ((repeat' (first | exact SVsM.nil | exact avsm_nil | exact svm_same rfl | exact svm_ptr rfl | exact svm_sl rfl | exact svm_slnil rfl | exact svsm_scal rfl | exact svsm_scal (wsv_scal _) | exact svsm_scal (by assumption) | exact hls_nil | apply SVsM.cons | apply tvm_a | apply tvm_tup | apply avm_agg | apply avm_s | apply avsm_cons | exact trivial | (refine hls_skip rfl ?_) | apply hls_none | apply hls_row | (refine rowmt_mk rfl rfl rfl rfl ?_) | exact rowmt_nil rfl rfl)); done) | exact rfl)))) | trace_state
set_option maxHeartbeats 1000000 in
set_option maxRecDepth 100000 in
theorem orun_fn (A : Nat) (hA : A < 4294967296) (L : Int) (l : List Mi) (N : Nat) (hN : l.length = N) (hN2 : N ≤ 1000000) (x : List Nat) (hx : x.length = 16) (hxr : ∀ y ∈ x, y < 4294967296) (hp : pureV A L (l.map Mi.z) = true) (hok : ∀ m ∈ l, MiOk m) :
    Fn Try.prog 18 [.agg [.int .u32 A, .int .i64 L, .sl 0 0 N], .agg (wsv x)] [⟨false, 6, mcs l⟩] (· = ⟨.a (.agg (wsv (runL l (x.set 0 0)))), [], []⟩) := by
  have hsc := mcs_scal l
  have cp := pure_fn A hA L (l.map Mi.z) N (by rw [List.length_map]; exact hN) hN2
  rw [hp, mzs_mcs] at cp
  have hpl := purL_mem (l := l) (by unfold pureV at hp; exact (Bool.and_eq_true _ _ ▸ hp).2)
  have hset : setAll (wsv x) (0 + ((0 : Int)).toNat * ty22.size) [absS (Value.int .u32 0)] = wsv (x.set 0 0) := wsv_set3 x 0 0 (by omega)
  have xl : (wsv x).length = 16 := by simp [hx]
  have yl : (wsv (x.set 0 0)).length = 16 := by simp [hx]
  have xk := wsv_known x
  have yk := wsv_known (x.set 0 0)
  have ysc := wsv_scal (x.set 0 0)
  have hx1 : (x.set 0 0).length = 16 := by simp [hx]
  have hxr1 : ∀ y ∈ x.set 0 0, y < 4294967296 := set_rng hxr (by omega)
  have hat := mcs_seg l
  generalize hx0 : x.set 0 0 = x0 at *
  generalize hLL : mcs l = LL at *
  generalize hYY0 : wsv x0 = Y at *
  generalize wsv x = X at *
  refine fn_of_vc mixed tys_ok _ _ Try.func18 (by kernel_rfl) rfl Try.ntmps18 (by rw [Try.results18]) rfl ?_; dsimp only [argTm, argHl, Nat.zero_add, Nat.reduceAdd, List.length_nil, List.length_cons]
  (repeat' ((conv => whnf); first | (refine vcall_det (f := 16) cp [⟨0, 0⟩] [(0, ⟨false, 6, LL⟩)] rfl ⟨rfl, trivial⟩ ⟨rfl, rowM_ro hsc, trivial⟩ ⟨rfl, noUp⟩ ?_)  |  (apply Sd.mk; · first | exact xk | exact yk | exact ⟨yl, yk, rfl, by show 0 + Y.length ≤ 16; omega⟩ | (refine ⟨rfl, rfl, rfl, ?_⟩; show 0 + ((0 : Int)).toNat * 1 + 1 ≤ X.length; simp; omega))  |  ((with_reducible apply Vl.mk (α := List SV)); · first | (with_reducible exact hset))  |  (apply Sg.mk; · exact sg_all Y yl) | (with_reducible apply sd_draw; · kernel_rfl) | (apply Sd.mk; · first | exact rfl | trivial | omega | (repeat' apply And.intro) <;> first | exact rfl | exact Nat.le_of_ble_eq_true rfl | omega | decide) | ((with_reducible apply Vl.mk (α := Int)); · (first | (with_reducible exact bits_keep _ _ _ _) | ((rewrite [tdiv_pos]); (focus (first | exact wi64 (by omega) (by omega) | exact wu32 (by omega) (by omega) | exact wi32 (by omega) (by omega))); omega) | exact tmod_pos (by omega) | exact wi64 (by omega) (by omega) | exact wu32 (by omega) (by omega) | exact wu32' _ | exact wu8 (by omega) (by omega) | exact wu64 (by omega) (by omega) | exact wi32 (by omega) (by omega) | rfl)) | ((with_reducible first | apply Vl.mk (α := Bool) | apply Vl.mk (α := Nat) | apply Vl.mk (α := ByteArray) | apply Ge.mk (α := Row) | apply Ge.mk (α := SV) | apply Ge.mk (α := AV)); · exact rfl) | (refine And.intro rfl ?_) | ((with_reducible first | apply Vl.mk (α := List SV) | apply Vl.mk (α := Ef) | apply Vl.mk (α := TV) | apply Ge.mk (α := List SV) | apply Sg.mk | apply Sk.mk); · (first | exact setAll_eq rfl | exact sg_all _ rfl | exact sk_all _ rfl rfl | ((first | apply sg_fc | apply sk_fc | (apply fc_eq; (conv => arg 1; whnf); apply fc_some) | apply fc_eq); (repeat' (first | exact fc_ren (wsv_scal _) | exact fc_ren (by assumption) | ((conv => arg 1; whnf); first | exact fc_nil | apply fc_cons | exact fc_int | exact fc_bool | exact fc_n | exact fc_ns | exact fc_ptr | exact fc_sl | exact fc_str | exact fc_unk | exact fc_fn | apply fc_s | apply fc_agg | apply fc_ta | apply fc_tup | exact fc_an | apply fc_ac | exact fc_tu | exact fc_nat | exact fc_bo | exact fc_none | apply fc_some | apply fc_pair | apply fc_row | apply fc_ef))); (all_goals exact rfl)) | ((dsimp only [Res.ef, renT, renA, renS, renN, nwN, upN, renRow, List.map_cons, List.map_nil, List.length_cons, List.length_nil]); first | done | exact rfl) | (dsimp only [setAll, List.set_cons_zero, List.set_cons_succ, List.cons_append, List.nil_append]; exact rfl) | exact rfl)) | ((first | apply Br.mk | apply Gd.mk) <;> (intro hb; first | (exact absurd hb (by decide)) | exact Bool.noConfusion (hb.symm.trans (by assumption) : true = false) | exact Bool.noConfusion (hb.symm.trans (by assumption) : false = true) | (simp only [decide_eq_true_eq, decide_eq_false_iff_not, beq_iff_eq, bne_iff_ne, beq_eq_false_iff_ne, bne_eq_false_iff_eq, Bool.not_eq_true', Bool.not_eq_false', Int.not_lt, Int.not_le, ge_iff_le, gt_iff_lt, ne_eq, Classical.not_not] at hb; first | (exfalso; omega) | skip) | skip)))); (all_goals (try (conv => whnf)))
  refine Lp.inv (fun mm σ => ∃ (i : Nat) (y : List Nat), mm + i = N ∧ y.length = 16 ∧ (∀ z ∈ y, z < 4294967296) ∧ runL (l.drop i) y = runL l x0 ∧ σ = rust N A L LL i (wsv y)) ?_ ?_
  · refine ⟨N, rust N A L LL 0 Y, ?_, 0, x0, by omega, hx1, hxr1, rfl, by rw [hYY0]⟩
    apply wk_of (m := [(0, some 0), (1, some 65536), (2, some 65600), (3, some 65664)])
    · repeat' (first | exact tml_nil | apply tml_cons)
      all_goals first | exact tvm_a (avm_s (svm_same rfl)) | exact tvm_a (avm_s (svm_ptr rfl)) | exact tvm_a (avm_s (svm_sl rfl))
    · show HlS _ _ [] _
      refine hls_row (rowmt_mk rfl rfl rfl rfl (svsm_scal hsc)) ?_
      refine hls_row (rowmt_mk rfl rfl rfl rfl (.cons (svm_same rfl) (.cons (svm_same rfl) (.cons (svm_sl rfl) .nil)))) ?_
      refine hls_row (rowmt_mk rfl rfl rfl rfl (svsm_scal ysc)) ?_
      refine hls_row (rowmt_mk rfl rfl rfl rfl (svsm_scal rfl)) ?_
      exact hls_nil
    · rfl
  · clear cp
    rintro mm σ ⟨i, y, hmi, hy, hyr, hinv, rfl⟩
    unfold rust
    have hysc := wsv_scal y
    by_cases hiN : i < N
    · obtain ⟨⟨o, a, b, c, k, n⟩, hm⟩ : ∃ m, l[i]? = some m := ⟨l[i]'(by omega), List.getElem?_eq_getElem (by omega)⟩
      have hd : l.drop i = ⟨o, a, b, c, k, n⟩ :: l.drop (i + 1) := by
        have hlt := (List.getElem?_eq_some_iff.1 hm).1
        rw [List.drop_eq_getElem_cons hlt]
        congr 1
        exact (List.getElem?_eq_some_iff.1 hm).2
      have hmok : a < 16 ∧ b < 16 ∧ c < 16 ∧ k < 4294967296 := hok _ (List.mem_of_getElem? hm)
      have hpm : o = 24 ∨ aluB o = true := hpl _ (List.mem_of_getElem? hm)
      have hnx : runL (l.drop (i + 1)) (stM ⟨o, a, b, c, k, n⟩ y) = runL l x0 := by rw [← hinv, hd]; rfl
      have hy2 : (stM ⟨o, a, b, c, k, n⟩ y).length = 16 := by rw [stM_len]; exact hy
      have hy2r := stM_rng ⟨o, a, b, c, k, n⟩ y hyr hmok.2.2.2
      have hy2sc := wsv_scal (stM ⟨o, a, b, c, k, n⟩ y)
      have seg := hat i _ hm
      dsimp only [Mi.C] at seg
      have q2 : IntKind.i64.wrap ((i : Int) + 1) = ((i + 1 : Nat) : Int) := by rw [wi64 (by omega) (by omega)]; omega
      have x1 : 0 + ((i : Nat) : Int).toNat * ty39.size = i * 6 := by show 0 + ((i : Nat) : Int).toNat * 6 = _; omega
      have rb := wsv_get3 y b (by omega)
      have rc := wsv_get3 y c (by omega)
      have hvr := vM_rng ⟨o, a, b, c, k, n⟩ y hyr hmok.2.2.2
      have hset1 := wsv_set3 y a (vM ⟨o, a, b, c, k, n⟩ y) (by omega)
      have hs0 : a = 0 → stM ⟨o, a, b, c, k, n⟩ y = y := fun h => if_pos h
      have hs1 : a ≠ 0 → stM ⟨o, a, b, c, k, n⟩ y = y.set a (vM ⟨o, a, b, c, k, n⟩ y) := fun h => if_neg h
      have gb := getD_lt hyr b
      have gc := getD_lt hyr c
      have hyl : (wsv y).length = 16 := by simp [hy]
      have c3 := threeG_fn o
      by_cases h24 : o = 24
      · have hv : vM ⟨o, a, b, c, k, n⟩ y = k := if_pos h24
        rw [hv] at hset1 hs1
        have hset := hset1
        generalize hY2 : wsv (y.set a k) = Y2 at *
        generalize hYY : wsv y = YY at *
        have hp2 : aluB o = false := by rw [h24]; rfl

        (repeat' ((conv => whnf); first | ((with_reducible apply Vl.mk (α := Int)); · with_reducible first | exact q2)  |  ((with_reducible apply Vl.mk (α := Nat)); · with_reducible first | exact x1)  |  (apply Sg.mk; · exact seg)  |  ((with_reducible apply Ge.mk (α := SV)); · first | exact rb | exact rc)  |  (apply Sd.mk; · (refine ⟨rfl, rfl, rfl, ?_⟩; show 0 + ((a : Nat) : Int).toNat * 1 + 1 ≤ YY.length; omega))  |  ((with_reducible apply Vl.mk (α := List SV)); · with_reducible exact hset) | (with_reducible apply sd_draw; · kernel_rfl) | (apply Sd.mk; · first | exact rfl | trivial | omega | (repeat' apply And.intro) <;> first | exact rfl | exact Nat.le_of_ble_eq_true rfl | omega | decide) | ((with_reducible apply Vl.mk (α := Int)); · (first | (with_reducible exact bits_keep _ _ _ _) | ((rewrite [tdiv_pos]); (focus (first | exact wi64 (by omega) (by omega) | exact wu32 (by omega) (by omega) | exact wi32 (by omega) (by omega))); omega) | exact tmod_pos (by omega) | exact wi64 (by omega) (by omega) | exact wu32 (by omega) (by omega) | exact wu32' _ | exact wu8 (by omega) (by omega) | exact wu64 (by omega) (by omega) | exact wi32 (by omega) (by omega) | rfl)) | ((with_reducible first | apply Vl.mk (α := Bool) | apply Vl.mk (α := Nat) | apply Vl.mk (α := ByteArray) | apply Ge.mk (α := Row) | apply Ge.mk (α := SV) | apply Ge.mk (α := AV)); · exact rfl) | (refine And.intro rfl ?_) | ((with_reducible first | apply Vl.mk (α := List SV) | apply Vl.mk (α := Ef) | apply Vl.mk (α := TV) | apply Ge.mk (α := List SV) | apply Sg.mk | apply Sk.mk); · (first | exact setAll_eq rfl | exact sg_all _ rfl | exact sk_all _ rfl rfl | ((first | apply sg_fc | apply sk_fc | (apply fc_eq; (conv => arg 1; whnf); apply fc_some) | apply fc_eq); (repeat' (first | exact fc_ren (wsv_scal _) | exact fc_ren (by assumption) | ((conv => arg 1; whnf); first | exact fc_nil | apply fc_cons | exact fc_int | exact fc_bool | exact fc_n | exact fc_ns | exact fc_ptr | exact fc_sl | exact fc_str | exact fc_unk | exact fc_fn | apply fc_s | apply fc_agg | apply fc_ta | apply fc_tup | exact fc_an | apply fc_ac | exact fc_tu | exact fc_nat | exact fc_bo | exact fc_none | apply fc_some | apply fc_pair | apply fc_row | apply fc_ef))); (all_goals exact rfl)) | ((dsimp only [Res.ef, renT, renA, renS, renN, nwN, upN, renRow, List.map_cons, List.map_nil, List.length_cons, List.length_nil]); first | done | exact rfl) | (dsimp only [setAll, List.set_cons_zero, List.set_cons_succ, List.cons_append, List.nil_append]; exact rfl) | exact rfl)) | ((first | apply Br.mk | apply Gd.mk) <;> (intro hb; first | (exact absurd hb (by decide)) | exact Bool.noConfusion (hb.symm.trans (by assumption) : true = false) | exact Bool.noConfusion (hb.symm.trans (by assumption) : false = true) | (simp only [decide_eq_true_eq, decide_eq_false_iff_not, beq_iff_eq, bne_iff_ne, beq_eq_false_iff_ne, bne_eq_false_iff_eq, Bool.not_eq_true', Bool.not_eq_false', Int.not_lt, Int.not_le, ge_iff_le, gt_iff_lt, ne_eq, Classical.not_not] at hb; first | (exfalso; omega) | skip) | skip)))); (all_goals (try (conv => whnf)))
        all_goals first
          | (refine ⟨mm - 1, rust N A L LL (i + 1) (wsv (stM ⟨o, a, b, c, k, n⟩ y)), by omega, ?_, i + 1, stM ⟨o, a, b, c, k, n⟩ y, by omega, hy2, hy2r, hnx, rfl⟩
             rw [hs0 (by omega), hYY]
             apply wk_of (m := [(0, some 0), (1, some 1), (2, some 2), (3, some 3)])
             · repeat' (first | exact tml_nil | apply tml_cons)
               all_goals first | exact tvm_a (avm_s (svm_same rfl)) | exact tvm_a (avm_s (svm_ptr rfl)) | exact tvm_a (avm_s (svm_sl rfl))
             · show HlS _ _ [] _
               refine hls_row (rowmt_mk rfl rfl rfl rfl (svsm_scal hsc)) ?_
               refine hls_row (rowmt_mk rfl rfl rfl rfl (.cons (svm_same rfl) (.cons (svm_same rfl) (.cons (svm_sl rfl) .nil)))) ?_
               refine hls_row (rowmt_mk rfl rfl rfl rfl (svsm_scal hysc)) ?_
               refine hls_row (rowmt_mk rfl rfl rfl rfl (svsm_scal rfl)) ?_
               exact hls_nil
             · rfl
            )
          | (refine ⟨mm - 1, rust N A L LL (i + 1) (wsv (stM ⟨o, a, b, c, k, n⟩ y)), by omega, ?_, i + 1, stM ⟨o, a, b, c, k, n⟩ y, by omega, hy2, hy2r, hnx, rfl⟩
             rw [hs1 (by omega), hY2]
             replace hy2sc : allScal Y2 = true := by rw [← hY2]; exact wsv_scal _
             apply wk_of (m := [(0, some 0), (1, some 1), (2, some 2), (3, some 3)])
             · repeat' (first | exact tml_nil | apply tml_cons)
               all_goals first | exact tvm_a (avm_s (svm_same rfl)) | exact tvm_a (avm_s (svm_ptr rfl)) | exact tvm_a (avm_s (svm_sl rfl))
             · show HlS _ _ [] _
               refine hls_row (rowmt_mk rfl rfl rfl rfl (svsm_scal hsc)) ?_
               refine hls_row (rowmt_mk rfl rfl rfl rfl (.cons (svm_same rfl) (.cons (svm_same rfl) (.cons (svm_sl rfl) .nil)))) ?_
               refine hls_row (rowmt_mk rfl rfl rfl rfl (svsm_scal hy2sc)) ?_
               refine hls_row (rowmt_mk rfl rfl rfl rfl (svsm_scal rfl)) ?_
               exact hls_nil
             · rfl
            )
          | trace_state
      · have hal : aluB o = true := hpm.resolve_left h24
        cases ht : thrB o with
        | true =>
          have hv : vM ⟨o, a, b, c, k, n⟩ y = aluN o (y.getD b 0) (y.getD c 0) := by unfold vM; rw [if_neg h24, ht]; rfl
          rw [hv] at hset1 hs1
          have ca := alu_fn o (y.getD b 0) (y.getD c 0) gb gc
          rw [hal, ← aluN_cast _ _ _ gb gc] at ca
          have hset := hset1
          generalize hVV : aluN o (y.getD b 0) (y.getD c 0) = VV at *
          generalize hY2 : wsv (y.set a VV) = Y2 at *
          generalize hYY : wsv y = YY at *
          generalize y.getD b 0 = yb at *
          generalize y.getD c 0 = yc at *
          rw [ht] at c3
          (repeat' ((conv => whnf); first | ((with_reducible apply Vl.mk (α := Int)); · with_reducible first | exact q2)  |  ((with_reducible apply Vl.mk (α := Nat)); · with_reducible first | exact x1)  |  (apply Sg.mk; · exact seg)  |  ((with_reducible apply Ge.mk (α := SV)); · first | exact rb | exact rc)  |  (apply Sd.mk; · (refine ⟨rfl, rfl, rfl, ?_⟩; show 0 + ((a : Nat) : Int).toNat * 1 + 1 ≤ YY.length; omega))  |  ((with_reducible apply Vl.mk (α := List SV)); · with_reducible exact hset)  |  (refine vcall_pure (f := 36) (ca) rfl ?_)  |  (refine vcall_pure (f := 35) (c3) rfl ?_) | (with_reducible apply sd_draw; · kernel_rfl) | (apply Sd.mk; · first | exact rfl | trivial | omega | (repeat' apply And.intro) <;> first | exact rfl | exact Nat.le_of_ble_eq_true rfl | omega | decide) | ((with_reducible apply Vl.mk (α := Int)); · (first | (with_reducible exact bits_keep _ _ _ _) | ((rewrite [tdiv_pos]); (focus (first | exact wi64 (by omega) (by omega) | exact wu32 (by omega) (by omega) | exact wi32 (by omega) (by omega))); omega) | exact tmod_pos (by omega) | exact wi64 (by omega) (by omega) | exact wu32 (by omega) (by omega) | exact wu32' _ | exact wu8 (by omega) (by omega) | exact wu64 (by omega) (by omega) | exact wi32 (by omega) (by omega) | rfl)) | ((with_reducible first | apply Vl.mk (α := Bool) | apply Vl.mk (α := Nat) | apply Vl.mk (α := ByteArray) | apply Ge.mk (α := Row) | apply Ge.mk (α := SV) | apply Ge.mk (α := AV)); · exact rfl) | (refine And.intro rfl ?_) | ((with_reducible first | apply Vl.mk (α := List SV) | apply Vl.mk (α := Ef) | apply Vl.mk (α := TV) | apply Ge.mk (α := List SV) | apply Sg.mk | apply Sk.mk); · (first | exact setAll_eq rfl | exact sg_all _ rfl | exact sk_all _ rfl rfl | ((first | apply sg_fc | apply sk_fc | (apply fc_eq; (conv => arg 1; whnf); apply fc_some) | apply fc_eq); (repeat' (first | exact fc_ren (wsv_scal _) | exact fc_ren (by assumption) | ((conv => arg 1; whnf); first | exact fc_nil | apply fc_cons | exact fc_int | exact fc_bool | exact fc_n | exact fc_ns | exact fc_ptr | exact fc_sl | exact fc_str | exact fc_unk | exact fc_fn | apply fc_s | apply fc_agg | apply fc_ta | apply fc_tup | exact fc_an | apply fc_ac | exact fc_tu | exact fc_nat | exact fc_bo | exact fc_none | apply fc_some | apply fc_pair | apply fc_row | apply fc_ef))); (all_goals exact rfl)) | ((dsimp only [Res.ef, renT, renA, renS, renN, nwN, upN, renRow, List.map_cons, List.map_nil, List.length_cons, List.length_nil]); first | done | exact rfl) | (dsimp only [setAll, List.set_cons_zero, List.set_cons_succ, List.cons_append, List.nil_append]; exact rfl) | exact rfl)) | ((first | apply Br.mk | apply Gd.mk) <;> (intro hb; first | (exact absurd hb (by decide)) | exact Bool.noConfusion (hb.symm.trans (by assumption) : true = false) | exact Bool.noConfusion (hb.symm.trans (by assumption) : false = true) | (simp only [decide_eq_true_eq, decide_eq_false_iff_not, beq_iff_eq, bne_iff_ne, beq_eq_false_iff_ne, bne_eq_false_iff_eq, Bool.not_eq_true', Bool.not_eq_false', Int.not_lt, Int.not_le, ge_iff_le, gt_iff_lt, ne_eq, Classical.not_not] at hb; first | (exfalso; omega) | skip) | skip)))); (all_goals (try (conv => whnf)))
          all_goals first
            | (refine ⟨mm - 1, rust N A L LL (i + 1) (wsv (stM ⟨o, a, b, c, k, n⟩ y)), by omega, ?_, i + 1, stM ⟨o, a, b, c, k, n⟩ y, by omega, hy2, hy2r, hnx, rfl⟩
               rw [hs0 (by omega), hYY]
               apply wk_of (m := [(0, some 0), (1, some 1), (2, some 2), (3, some 3)])
               · repeat' (first | exact tml_nil | apply tml_cons)
                 all_goals first | exact tvm_a (avm_s (svm_same rfl)) | exact tvm_a (avm_s (svm_ptr rfl)) | exact tvm_a (avm_s (svm_sl rfl))
               · show HlS _ _ [] _
                 refine hls_row (rowmt_mk rfl rfl rfl rfl (svsm_scal hsc)) ?_
                 refine hls_row (rowmt_mk rfl rfl rfl rfl (.cons (svm_same rfl) (.cons (svm_same rfl) (.cons (svm_sl rfl) .nil)))) ?_
                 refine hls_row (rowmt_mk rfl rfl rfl rfl (svsm_scal hysc)) ?_
                 refine hls_row (rowmt_mk rfl rfl rfl rfl (svsm_scal rfl)) ?_
                 exact hls_nil
               · rfl
              )
            | (refine ⟨mm - 1, rust N A L LL (i + 1) (wsv (stM ⟨o, a, b, c, k, n⟩ y)), by omega, ?_, i + 1, stM ⟨o, a, b, c, k, n⟩ y, by omega, hy2, hy2r, hnx, rfl⟩
               rw [hs1 (by omega), hY2]
               replace hy2sc : allScal Y2 = true := by rw [← hY2]; exact wsv_scal _
               apply wk_of (m := [(0, some 0), (1, some 1), (2, some 2), (3, some 3)])
               · repeat' (first | exact tml_nil | apply tml_cons)
                 all_goals first | exact tvm_a (avm_s (svm_same rfl)) | exact tvm_a (avm_s (svm_ptr rfl)) | exact tvm_a (avm_s (svm_sl rfl))
               · show HlS _ _ [] _
                 refine hls_row (rowmt_mk rfl rfl rfl rfl (svsm_scal hsc)) ?_
                 refine hls_row (rowmt_mk rfl rfl rfl rfl (.cons (svm_same rfl) (.cons (svm_same rfl) (.cons (svm_sl rfl) .nil)))) ?_
                 refine hls_row (rowmt_mk rfl rfl rfl rfl (svsm_scal hy2sc)) ?_
                 refine hls_row (rowmt_mk rfl rfl rfl rfl (svsm_scal rfl)) ?_
                 exact hls_nil
               · rfl
              )
            | trace_state
        | false =>
          have hv : vM ⟨o, a, b, c, k, n⟩ y = aluN o (y.getD b 0) k := by unfold vM; rw [if_neg h24, ht]; rfl
          rw [hv] at hset1 hs1
          have ca := alu_fn o (y.getD b 0) k gb hmok.2.2.2
          rw [hal, ← aluN_cast _ _ _ gb hmok.2.2.2] at ca
          have hset := hset1
          generalize hVV : aluN o (y.getD b 0) k = VV at *
          generalize hY2 : wsv (y.set a VV) = Y2 at *
          generalize hYY : wsv y = YY at *
          generalize y.getD b 0 = yb at *
          generalize y.getD c 0 = yc at *
          rw [ht] at c3
          (repeat' ((conv => whnf); first | ((with_reducible apply Vl.mk (α := Int)); · with_reducible first | exact q2)  |  ((with_reducible apply Vl.mk (α := Nat)); · with_reducible first | exact x1)  |  (apply Sg.mk; · exact seg)  |  ((with_reducible apply Ge.mk (α := SV)); · first | exact rb | exact rc)  |  (apply Sd.mk; · (refine ⟨rfl, rfl, rfl, ?_⟩; show 0 + ((a : Nat) : Int).toNat * 1 + 1 ≤ YY.length; omega))  |  ((with_reducible apply Vl.mk (α := List SV)); · with_reducible exact hset)  |  (refine vcall_pure (f := 36) (ca) rfl ?_)  |  (refine vcall_pure (f := 35) (c3) rfl ?_) | (with_reducible apply sd_draw; · kernel_rfl) | (apply Sd.mk; · first | exact rfl | trivial | omega | (repeat' apply And.intro) <;> first | exact rfl | exact Nat.le_of_ble_eq_true rfl | omega | decide) | ((with_reducible apply Vl.mk (α := Int)); · (first | (with_reducible exact bits_keep _ _ _ _) | ((rewrite [tdiv_pos]); (focus (first | exact wi64 (by omega) (by omega) | exact wu32 (by omega) (by omega) | exact wi32 (by omega) (by omega))); omega) | exact tmod_pos (by omega) | exact wi64 (by omega) (by omega) | exact wu32 (by omega) (by omega) | exact wu32' _ | exact wu8 (by omega) (by omega) | exact wu64 (by omega) (by omega) | exact wi32 (by omega) (by omega) | rfl)) | ((with_reducible first | apply Vl.mk (α := Bool) | apply Vl.mk (α := Nat) | apply Vl.mk (α := ByteArray) | apply Ge.mk (α := Row) | apply Ge.mk (α := SV) | apply Ge.mk (α := AV)); · exact rfl) | (refine And.intro rfl ?_) | ((with_reducible first | apply Vl.mk (α := List SV) | apply Vl.mk (α := Ef) | apply Vl.mk (α := TV) | apply Ge.mk (α := List SV) | apply Sg.mk | apply Sk.mk); · (first | exact setAll_eq rfl | exact sg_all _ rfl | exact sk_all _ rfl rfl | ((first | apply sg_fc | apply sk_fc | (apply fc_eq; (conv => arg 1; whnf); apply fc_some) | apply fc_eq); (repeat' (first | exact fc_ren (wsv_scal _) | exact fc_ren (by assumption) | ((conv => arg 1; whnf); first | exact fc_nil | apply fc_cons | exact fc_int | exact fc_bool | exact fc_n | exact fc_ns | exact fc_ptr | exact fc_sl | exact fc_str | exact fc_unk | exact fc_fn | apply fc_s | apply fc_agg | apply fc_ta | apply fc_tup | exact fc_an | apply fc_ac | exact fc_tu | exact fc_nat | exact fc_bo | exact fc_none | apply fc_some | apply fc_pair | apply fc_row | apply fc_ef))); (all_goals exact rfl)) | ((dsimp only [Res.ef, renT, renA, renS, renN, nwN, upN, renRow, List.map_cons, List.map_nil, List.length_cons, List.length_nil]); first | done | exact rfl) | (dsimp only [setAll, List.set_cons_zero, List.set_cons_succ, List.cons_append, List.nil_append]; exact rfl) | exact rfl)) | ((first | apply Br.mk | apply Gd.mk) <;> (intro hb; first | (exact absurd hb (by decide)) | exact Bool.noConfusion (hb.symm.trans (by assumption) : true = false) | exact Bool.noConfusion (hb.symm.trans (by assumption) : false = true) | (simp only [decide_eq_true_eq, decide_eq_false_iff_not, beq_iff_eq, bne_iff_ne, beq_eq_false_iff_ne, bne_eq_false_iff_eq, Bool.not_eq_true', Bool.not_eq_false', Int.not_lt, Int.not_le, ge_iff_le, gt_iff_lt, ne_eq, Classical.not_not] at hb; first | (exfalso; omega) | skip) | skip)))); (all_goals (try (conv => whnf)))
          all_goals first
            | (refine ⟨mm - 1, rust N A L LL (i + 1) (wsv (stM ⟨o, a, b, c, k, n⟩ y)), by omega, ?_, i + 1, stM ⟨o, a, b, c, k, n⟩ y, by omega, hy2, hy2r, hnx, rfl⟩
               rw [hs0 (by omega), hYY]
               apply wk_of (m := [(0, some 0), (1, some 1), (2, some 2), (3, some 3)])
               · repeat' (first | exact tml_nil | apply tml_cons)
                 all_goals first | exact tvm_a (avm_s (svm_same rfl)) | exact tvm_a (avm_s (svm_ptr rfl)) | exact tvm_a (avm_s (svm_sl rfl))
               · show HlS _ _ [] _
                 refine hls_row (rowmt_mk rfl rfl rfl rfl (svsm_scal hsc)) ?_
                 refine hls_row (rowmt_mk rfl rfl rfl rfl (.cons (svm_same rfl) (.cons (svm_same rfl) (.cons (svm_sl rfl) .nil)))) ?_
                 refine hls_row (rowmt_mk rfl rfl rfl rfl (svsm_scal hysc)) ?_
                 refine hls_row (rowmt_mk rfl rfl rfl rfl (svsm_scal rfl)) ?_
                 exact hls_nil
               · rfl
              )
            | (refine ⟨mm - 1, rust N A L LL (i + 1) (wsv (stM ⟨o, a, b, c, k, n⟩ y)), by omega, ?_, i + 1, stM ⟨o, a, b, c, k, n⟩ y, by omega, hy2, hy2r, hnx, rfl⟩
               rw [hs1 (by omega), hY2]
               replace hy2sc : allScal Y2 = true := by rw [← hY2]; exact wsv_scal _
               apply wk_of (m := [(0, some 0), (1, some 1), (2, some 2), (3, some 3)])
               · repeat' (first | exact tml_nil | apply tml_cons)
                 all_goals first | exact tvm_a (avm_s (svm_same rfl)) | exact tvm_a (avm_s (svm_ptr rfl)) | exact tvm_a (avm_s (svm_sl rfl))
               · show HlS _ _ [] _
                 refine hls_row (rowmt_mk rfl rfl rfl rfl (svsm_scal hsc)) ?_
                 refine hls_row (rowmt_mk rfl rfl rfl rfl (.cons (svm_same rfl) (.cons (svm_same rfl) (.cons (svm_sl rfl) .nil)))) ?_
                 refine hls_row (rowmt_mk rfl rfl rfl rfl (svsm_scal hy2sc)) ?_
                 refine hls_row (rowmt_mk rfl rfl rfl rfl (svsm_scal rfl)) ?_
                 exact hls_nil
               · rfl
              )
            | trace_state
    · have hdn : l.drop i = [] := List.drop_eq_nil_of_le (by omega)
      rw [hdn] at hinv
      change y = _ at hinv
      rw [← hinv]
      have hyl : (wsv y).length = 16 := by simp [hy]
      have hyk := wsv_known y
      generalize wsv y = YY at *
      have hall : ∀ M : List SV, M.length = 16 → setAll M 0 YY = YY := fun M hM => setAll_all (by rw [hM, hyl])
      (repeat' ((conv => whnf); first | (apply Sd.mk; · first | exact ⟨hyl, hyk, rfl, by show 0 + YY.length ≤ 16; omega⟩)  |  ((with_reducible apply Vl.mk (α := List SV)); · ((with_reducible refine hall _ ?_); (focus exact rfl)))  |  (apply Sg.mk; · exact sg_all YY hyl) | (with_reducible apply sd_draw; · kernel_rfl) | (apply Sd.mk; · first | exact rfl | trivial | omega | (repeat' apply And.intro) <;> first | exact rfl | exact Nat.le_of_ble_eq_true rfl | omega | decide) | ((with_reducible apply Vl.mk (α := Int)); · (first | (with_reducible exact bits_keep _ _ _ _) | ((rewrite [tdiv_pos]); (focus (first | exact wi64 (by omega) (by omega) | exact wu32 (by omega) (by omega) | exact wi32 (by omega) (by omega))); omega) | exact tmod_pos (by omega) | exact wi64 (by omega) (by omega) | exact wu32 (by omega) (by omega) | exact wu32' _ | exact wu8 (by omega) (by omega) | exact wu64 (by omega) (by omega) | exact wi32 (by omega) (by omega) | rfl)) | ((with_reducible first | apply Vl.mk (α := Bool) | apply Vl.mk (α := Nat) | apply Vl.mk (α := ByteArray) | apply Ge.mk (α := Row) | apply Ge.mk (α := SV) | apply Ge.mk (α := AV)); · exact rfl) | (refine And.intro rfl ?_) | ((with_reducible first | apply Vl.mk (α := List SV) | apply Vl.mk (α := Ef) | apply Vl.mk (α := TV) | apply Ge.mk (α := List SV) | apply Sg.mk | apply Sk.mk); · (first | exact setAll_eq rfl | exact sg_all _ rfl | exact sk_all _ rfl rfl | ((first | apply sg_fc | apply sk_fc | (apply fc_eq; (conv => arg 1; whnf); apply fc_some) | apply fc_eq); (repeat' (first | exact fc_ren (wsv_scal _) | exact fc_ren (by assumption) | ((conv => arg 1; whnf); first | exact fc_nil | apply fc_cons | exact fc_int | exact fc_bool | exact fc_n | exact fc_ns | exact fc_ptr | exact fc_sl | exact fc_str | exact fc_unk | exact fc_fn | apply fc_s | apply fc_agg | apply fc_ta | apply fc_tup | exact fc_an | apply fc_ac | exact fc_tu | exact fc_nat | exact fc_bo | exact fc_none | apply fc_some | apply fc_pair | apply fc_row | apply fc_ef))); (all_goals exact rfl)) | ((dsimp only [Res.ef, renT, renA, renS, renN, nwN, upN, renRow, List.map_cons, List.map_nil, List.length_cons, List.length_nil]); first | done | exact rfl) | (dsimp only [setAll, List.set_cons_zero, List.set_cons_succ, List.cons_append, List.nil_append]; exact rfl) | exact rfl)) | ((first | apply Br.mk | apply Gd.mk) <;> (intro hb; first | (exact absurd hb (by decide)) | exact Bool.noConfusion (hb.symm.trans (by assumption) : true = false) | exact Bool.noConfusion (hb.symm.trans (by assumption) : false = true) | (simp only [decide_eq_true_eq, decide_eq_false_iff_not, beq_iff_eq, bne_iff_ne, beq_eq_false_iff_ne, bne_eq_false_iff_eq, Bool.not_eq_true', Bool.not_eq_false', Int.not_lt, Int.not_le, ge_iff_le, gt_iff_lt, ne_eq, Classical.not_not] at hb; first | (exfalso; omega) | skip) | skip)))); (all_goals (try (conv => whnf)))
      all_goals first | ((apply Fin.mk (m := [(0, some 0)]); (focus exact rfl); (all_goals ((try (show HlS _ _ [] _)); first | ((repeat' (first | exact SVsM.nil | exact avsm_nil | exact svm_same rfl | exact svm_ptr rfl | exact svm_sl rfl | exact svm_slnil rfl | exact svsm_scal rfl | exact svsm_scal (wsv_scal _) | exact svsm_scal (by assumption) | exact hls_nil | apply SVsM.cons | apply tvm_a | apply tvm_tup | apply avm_agg | apply avm_s | apply avsm_cons | exact trivial | (refine hls_skip rfl ?_) | apply hls_none | apply hls_row | (refine rowmt_mk rfl rfl rfl rfl ?_) | exact rowmt_nil rfl rfl)); done) | exact rfl)))) | trace_state
def rrust (N A : Nat) (L : Int) (LL : List SV) (i : Nat) (Y : List SV) : St :=
  ⟨[(2, .a (.s (.ptr 1 0))), (3, .a (.s (.ptr 2 0))), (4, .a (.s (.ptr 3 0))), (5, .a (.s (.int .i64 i)))],
   [(0, some ⟨false, 6, LL⟩), (1, some ⟨true, 1, [.int .u32 A, .int .i64 L, .sl 0 0 N]⟩), (2, some ⟨true, 1, Y⟩), (3, some ⟨true, 1, [.int .u32 0, .int .u32 0, .int .u32 0, .int .u32 0, .int .u32 0, .int .u32 0, .int .u32 0, .int .u32 0, .int .u32 0, .int .u32 0, .int .u32 0, .int .u32 0, .int .u32 0, .int .u32 0, .int .u32 0, .int .u32 0]⟩)], [0]⟩
set_option maxHeartbeats 1000000 in
set_option maxRecDepth 100000 in
theorem rrunN_fn (A : Nat) (hA : A < 4294967296) (L : Int) (l : List Mz) (N : Nat) (hN : l.length = N) (hN2 : N ≤ 1000000) (x : List Nat) (hx : x.length = 16) (hp : pureV A L l = false) :
    Fn Try.prog 19 [.agg [.int .u32 A, .int .i64 L, .sl 0 0 N], .agg (wsv x)] [⟨false, 6, mzs l⟩] (· = ⟨.a (.agg (wsv (x.set 0 0))), [], []⟩) := by
  have hsc := mzs_scal l
  have cp := rpure_fn A hA L l N hN hN2
  rw [hp] at cp
  have hset : setAll (wsv x) (0 + ((0 : Int)).toNat * ty22.size) [absS (Value.int .u32 0)] = wsv (x.set 0 0) := wsv_set3 x 0 0 (by omega)
  have xl : (wsv x).length = 16 := by simp [hx]
  have yl : (wsv (x.set 0 0)).length = 16 := by simp [hx]
  have xk := wsv_known x
  have yk := wsv_known (x.set 0 0)
  have ysc := wsv_scal (x.set 0 0)
  have hall : ∀ M : List SV, M.length = 16 → setAll M 0 (wsv (x.set 0 0)) = wsv (x.set 0 0) := fun M hM => setAll_all (by rw [hM, yl])
  generalize mzs l = LL at *
  generalize wsv (x.set 0 0) = Y at *
  generalize wsv x = X at *
  refine fn_of_vc mixed tys_ok _ _ Try.func19 (by kernel_rfl) rfl Try.ntmps19 (by rw [Try.results19]) rfl ?_; dsimp only [argTm, argHl, Nat.zero_add, Nat.reduceAdd, List.length_nil, List.length_cons]
  (repeat' ((conv => whnf); first | (refine vcall_det (f := 17) cp [⟨0, 0⟩] [(0, ⟨false, 6, LL⟩)] rfl ⟨rfl, trivial⟩ ⟨rfl, rowM_ro hsc, trivial⟩ ⟨rfl, noUp⟩ ?_)  |  (apply Sd.mk; · first | exact xk | exact yk | exact ⟨yl, yk, rfl, by show 0 + Y.length ≤ 16; omega⟩ | (refine ⟨rfl, rfl, rfl, ?_⟩; show 0 + ((0 : Int)).toNat * 1 + 1 ≤ X.length; simp; omega))  |  ((with_reducible apply Vl.mk (α := List SV)); · first | (with_reducible exact hset) | ((with_reducible refine hall _ ?_); (focus exact rfl)))  |  (apply Sg.mk; · exact sg_all Y yl) | (with_reducible apply sd_draw; · kernel_rfl) | (apply Sd.mk; · first | exact rfl | trivial | omega | (repeat' apply And.intro) <;> first | exact rfl | exact Nat.le_of_ble_eq_true rfl | omega | decide) | ((with_reducible apply Vl.mk (α := Int)); · (first | (with_reducible exact bits_keep _ _ _ _) | ((rewrite [tdiv_pos]); (focus (first | exact wi64 (by omega) (by omega) | exact wu32 (by omega) (by omega) | exact wi32 (by omega) (by omega))); omega) | exact tmod_pos (by omega) | exact wi64 (by omega) (by omega) | exact wu32 (by omega) (by omega) | exact wu32' _ | exact wu8 (by omega) (by omega) | exact wu64 (by omega) (by omega) | exact wi32 (by omega) (by omega) | rfl)) | ((with_reducible first | apply Vl.mk (α := Bool) | apply Vl.mk (α := Nat) | apply Vl.mk (α := ByteArray) | apply Ge.mk (α := Row) | apply Ge.mk (α := SV) | apply Ge.mk (α := AV)); · exact rfl) | (refine And.intro rfl ?_) | ((with_reducible first | apply Vl.mk (α := List SV) | apply Vl.mk (α := Ef) | apply Vl.mk (α := TV) | apply Ge.mk (α := List SV) | apply Sg.mk | apply Sk.mk); · (first | exact setAll_eq rfl | exact sg_all _ rfl | exact sk_all _ rfl rfl | ((first | apply sg_fc | apply sk_fc | (apply fc_eq; (conv => arg 1; whnf); apply fc_some) | apply fc_eq); (repeat' (first | exact fc_ren (wsv_scal _) | exact fc_ren (by assumption) | ((conv => arg 1; whnf); first | exact fc_nil | apply fc_cons | exact fc_int | exact fc_bool | exact fc_n | exact fc_ns | exact fc_ptr | exact fc_sl | exact fc_str | exact fc_unk | exact fc_fn | apply fc_s | apply fc_agg | apply fc_ta | apply fc_tup | exact fc_an | apply fc_ac | exact fc_tu | exact fc_nat | exact fc_bo | exact fc_none | apply fc_some | apply fc_pair | apply fc_row | apply fc_ef))); (all_goals exact rfl)) | ((dsimp only [Res.ef, renT, renA, renS, renN, nwN, upN, renRow, List.map_cons, List.map_nil, List.length_cons, List.length_nil]); first | done | exact rfl) | (dsimp only [setAll, List.set_cons_zero, List.set_cons_succ, List.cons_append, List.nil_append]; exact rfl) | exact rfl)) | ((first | apply Br.mk | apply Gd.mk) <;> (intro hb; first | (exact absurd hb (by decide)) | exact Bool.noConfusion (hb.symm.trans (by assumption) : true = false) | exact Bool.noConfusion (hb.symm.trans (by assumption) : false = true) | (simp only [decide_eq_true_eq, decide_eq_false_iff_not, beq_iff_eq, bne_iff_ne, beq_eq_false_iff_ne, bne_eq_false_iff_eq, Bool.not_eq_true', Bool.not_eq_false', Int.not_lt, Int.not_le, ge_iff_le, gt_iff_lt, ne_eq, Classical.not_not] at hb; first | (exfalso; omega) | skip) | skip)))); (all_goals (try (conv => whnf)))
  all_goals first | ((apply Fin.mk (m := [(0, some 0)]); (focus exact rfl); (all_goals ((try (show HlS _ _ [] _)); first | ((repeat' (first | exact SVsM.nil | exact avsm_nil | exact svm_same rfl | exact svm_ptr rfl | exact svm_sl rfl | exact svm_slnil rfl | exact svsm_scal rfl | exact svsm_scal (wsv_scal _) | exact svsm_scal (by assumption) | exact hls_nil | apply SVsM.cons | apply tvm_a | apply tvm_tup | apply avm_agg | apply avm_s | apply avsm_cons | exact trivial | (refine hls_skip rfl ?_) | apply hls_none | apply hls_row | (refine rowmt_mk rfl rfl rfl rfl ?_) | exact rowmt_nil rfl rfl)); done) | exact rfl)))) | trace_state
set_option maxHeartbeats 1000000 in
set_option maxRecDepth 100000 in
theorem rrun_fn (A : Nat) (hA : A < 4294967296) (L : Int) (l : List Mi) (N : Nat) (hN : l.length = N) (hN2 : N ≤ 1000000) (x : List Nat) (hx : x.length = 16) (hxr : ∀ y ∈ x, y < 4294967296) (hp : pureV A L (l.map Mi.z) = true) (hok : ∀ m ∈ l, MiOk m) :
    Fn Try.prog 19 [.agg [.int .u32 A, .int .i64 L, .sl 0 0 N], .agg (wsv x)] [⟨false, 6, mcs l⟩] (· = ⟨.a (.agg (wsv (runL l (x.set 0 0)))), [], []⟩) := by
  have hsc := mcs_scal l
  have cp := rpure_fn A hA L (l.map Mi.z) N (by rw [List.length_map]; exact hN) hN2
  rw [hp, mzs_mcs] at cp
  have hpl := purL_mem (l := l) (by unfold pureV at hp; exact (Bool.and_eq_true _ _ ▸ hp).2)
  have hset : setAll (wsv x) (0 + ((0 : Int)).toNat * ty22.size) [absS (Value.int .u32 0)] = wsv (x.set 0 0) := wsv_set3 x 0 0 (by omega)
  have xl : (wsv x).length = 16 := by simp [hx]
  have yl : (wsv (x.set 0 0)).length = 16 := by simp [hx]
  have xk := wsv_known x
  have yk := wsv_known (x.set 0 0)
  have ysc := wsv_scal (x.set 0 0)
  have hx1 : (x.set 0 0).length = 16 := by simp [hx]
  have hxr1 : ∀ y ∈ x.set 0 0, y < 4294967296 := set_rng hxr (by omega)
  have hat := mcs_seg l
  generalize hx0 : x.set 0 0 = x0 at *
  generalize hLL : mcs l = LL at *
  generalize hYY0 : wsv x0 = Y at *
  generalize wsv x = X at *
  refine fn_of_vc mixed tys_ok _ _ Try.func19 (by kernel_rfl) rfl Try.ntmps19 (by rw [Try.results19]) rfl ?_; dsimp only [argTm, argHl, Nat.zero_add, Nat.reduceAdd, List.length_nil, List.length_cons]
  (repeat' ((conv => whnf); first | (refine vcall_det (f := 17) cp [⟨0, 0⟩] [(0, ⟨false, 6, LL⟩)] rfl ⟨rfl, trivial⟩ ⟨rfl, rowM_ro hsc, trivial⟩ ⟨rfl, noUp⟩ ?_)  |  (apply Sd.mk; · first | exact xk | exact yk | exact ⟨yl, yk, rfl, by show 0 + Y.length ≤ 16; omega⟩ | (refine ⟨rfl, rfl, rfl, ?_⟩; show 0 + ((0 : Int)).toNat * 1 + 1 ≤ X.length; simp; omega))  |  ((with_reducible apply Vl.mk (α := List SV)); · first | (with_reducible exact hset))  |  (apply Sg.mk; · exact sg_all Y yl) | (with_reducible apply sd_draw; · kernel_rfl) | (apply Sd.mk; · first | exact rfl | trivial | omega | (repeat' apply And.intro) <;> first | exact rfl | exact Nat.le_of_ble_eq_true rfl | omega | decide) | ((with_reducible apply Vl.mk (α := Int)); · (first | (with_reducible exact bits_keep _ _ _ _) | ((rewrite [tdiv_pos]); (focus (first | exact wi64 (by omega) (by omega) | exact wu32 (by omega) (by omega) | exact wi32 (by omega) (by omega))); omega) | exact tmod_pos (by omega) | exact wi64 (by omega) (by omega) | exact wu32 (by omega) (by omega) | exact wu32' _ | exact wu8 (by omega) (by omega) | exact wu64 (by omega) (by omega) | exact wi32 (by omega) (by omega) | rfl)) | ((with_reducible first | apply Vl.mk (α := Bool) | apply Vl.mk (α := Nat) | apply Vl.mk (α := ByteArray) | apply Ge.mk (α := Row) | apply Ge.mk (α := SV) | apply Ge.mk (α := AV)); · exact rfl) | (refine And.intro rfl ?_) | ((with_reducible first | apply Vl.mk (α := List SV) | apply Vl.mk (α := Ef) | apply Vl.mk (α := TV) | apply Ge.mk (α := List SV) | apply Sg.mk | apply Sk.mk); · (first | exact setAll_eq rfl | exact sg_all _ rfl | exact sk_all _ rfl rfl | ((first | apply sg_fc | apply sk_fc | (apply fc_eq; (conv => arg 1; whnf); apply fc_some) | apply fc_eq); (repeat' (first | exact fc_ren (wsv_scal _) | exact fc_ren (by assumption) | ((conv => arg 1; whnf); first | exact fc_nil | apply fc_cons | exact fc_int | exact fc_bool | exact fc_n | exact fc_ns | exact fc_ptr | exact fc_sl | exact fc_str | exact fc_unk | exact fc_fn | apply fc_s | apply fc_agg | apply fc_ta | apply fc_tup | exact fc_an | apply fc_ac | exact fc_tu | exact fc_nat | exact fc_bo | exact fc_none | apply fc_some | apply fc_pair | apply fc_row | apply fc_ef))); (all_goals exact rfl)) | ((dsimp only [Res.ef, renT, renA, renS, renN, nwN, upN, renRow, List.map_cons, List.map_nil, List.length_cons, List.length_nil]); first | done | exact rfl) | (dsimp only [setAll, List.set_cons_zero, List.set_cons_succ, List.cons_append, List.nil_append]; exact rfl) | exact rfl)) | ((first | apply Br.mk | apply Gd.mk) <;> (intro hb; first | (exact absurd hb (by decide)) | exact Bool.noConfusion (hb.symm.trans (by assumption) : true = false) | exact Bool.noConfusion (hb.symm.trans (by assumption) : false = true) | (simp only [decide_eq_true_eq, decide_eq_false_iff_not, beq_iff_eq, bne_iff_ne, beq_eq_false_iff_ne, bne_eq_false_iff_eq, Bool.not_eq_true', Bool.not_eq_false', Int.not_lt, Int.not_le, ge_iff_le, gt_iff_lt, ne_eq, Classical.not_not] at hb; first | (exfalso; omega) | skip) | skip)))); (all_goals (try (conv => whnf)))
  refine Lp.inv (fun mm σ => ∃ (i : Nat) (y : List Nat), mm + i = N ∧ y.length = 16 ∧ (∀ z ∈ y, z < 4294967296) ∧ runL (l.drop i) y = runL l x0 ∧ σ = rrust N A L LL i (wsv y)) ?_ ?_
  · refine ⟨N, rrust N A L LL 0 Y, ?_, 0, x0, by omega, hx1, hxr1, rfl, by rw [hYY0]⟩
    apply wk_of (m := [(0, some 0), (1, some 65536), (2, some 65600), (3, some 65664)])
    · repeat' (first | exact tml_nil | apply tml_cons)
      all_goals first | exact tvm_a (avm_s (svm_same rfl)) | exact tvm_a (avm_s (svm_ptr rfl)) | exact tvm_a (avm_s (svm_sl rfl))
    · show HlS _ _ [] _
      refine hls_row (rowmt_mk rfl rfl rfl rfl (svsm_scal hsc)) ?_
      refine hls_row (rowmt_mk rfl rfl rfl rfl (.cons (svm_same rfl) (.cons (svm_same rfl) (.cons (svm_sl rfl) .nil)))) ?_
      refine hls_row (rowmt_mk rfl rfl rfl rfl (svsm_scal ysc)) ?_
      refine hls_row (rowmt_mk rfl rfl rfl rfl (svsm_scal rfl)) ?_
      exact hls_nil
    · rfl
  · clear cp
    rintro mm σ ⟨i, y, hmi, hy, hyr, hinv, rfl⟩
    unfold rrust
    have hysc := wsv_scal y
    by_cases hiN : i < N
    · obtain ⟨⟨o, a, b, c, k, n⟩, hm⟩ : ∃ m, l[i]? = some m := ⟨l[i]'(by omega), List.getElem?_eq_getElem (by omega)⟩
      have hd : l.drop i = ⟨o, a, b, c, k, n⟩ :: l.drop (i + 1) := by
        have hlt := (List.getElem?_eq_some_iff.1 hm).1
        rw [List.drop_eq_getElem_cons hlt]
        congr 1
        exact (List.getElem?_eq_some_iff.1 hm).2
      have hmok : a < 16 ∧ b < 16 ∧ c < 16 ∧ k < 4294967296 := hok _ (List.mem_of_getElem? hm)
      have hpm : o = 24 ∨ aluB o = true := hpl _ (List.mem_of_getElem? hm)
      have hnx : runL (l.drop (i + 1)) (stM ⟨o, a, b, c, k, n⟩ y) = runL l x0 := by rw [← hinv, hd]; rfl
      have hy2 : (stM ⟨o, a, b, c, k, n⟩ y).length = 16 := by rw [stM_len]; exact hy
      have hy2r := stM_rng ⟨o, a, b, c, k, n⟩ y hyr hmok.2.2.2
      have hy2sc := wsv_scal (stM ⟨o, a, b, c, k, n⟩ y)
      have seg := hat i _ hm
      dsimp only [Mi.C] at seg
      have q2 : IntKind.i64.wrap ((i : Int) + 1) = ((i + 1 : Nat) : Int) := by rw [wi64 (by omega) (by omega)]; omega
      have x1 : 0 + ((i : Nat) : Int).toNat * ty39.size = i * 6 := by show 0 + ((i : Nat) : Int).toNat * 6 = _; omega
      have rb := wsv_get3 y b (by omega)
      have rc := wsv_get3 y c (by omega)
      have hvr := vM_rng ⟨o, a, b, c, k, n⟩ y hyr hmok.2.2.2
      have hset1 := wsv_set3 y a (vM ⟨o, a, b, c, k, n⟩ y) (by omega)
      have hs0 : a = 0 → stM ⟨o, a, b, c, k, n⟩ y = y := fun h => if_pos h
      have hs1 : a ≠ 0 → stM ⟨o, a, b, c, k, n⟩ y = y.set a (vM ⟨o, a, b, c, k, n⟩ y) := fun h => if_neg h
      have gb := getD_lt hyr b
      have gc := getD_lt hyr c
      have hyl : (wsv y).length = 16 := by simp [hy]
      have c3 := rarith_fn o
      by_cases h24 : o = 24
      · have hv : vM ⟨o, a, b, c, k, n⟩ y = k := if_pos h24
        rw [hv] at hset1 hs1
        have hset := hset1
        generalize hY2 : wsv (y.set a k) = Y2 at *
        generalize hYY : wsv y = YY at *
        have hp2 : aluB o = false := by rw [h24]; rfl
        rw [hp2] at c3
        (repeat' ((conv => whnf); first | ((with_reducible apply Vl.mk (α := Int)); · with_reducible first | exact q2)  |  ((with_reducible apply Vl.mk (α := Nat)); · with_reducible first | exact x1)  |  (apply Sg.mk; · exact seg)  |  ((with_reducible apply Ge.mk (α := SV)); · first | exact rb | exact rc)  |  (apply Sd.mk; · (refine ⟨rfl, rfl, rfl, ?_⟩; show 0 + ((a : Nat) : Int).toNat * 1 + 1 ≤ YY.length; omega))  |  ((with_reducible apply Vl.mk (α := List SV)); · with_reducible exact hset)  |  (refine vcall_pure (f := 33) (c3) rfl ?_) | (with_reducible apply sd_draw; · kernel_rfl) | (apply Sd.mk; · first | exact rfl | trivial | omega | (repeat' apply And.intro) <;> first | exact rfl | exact Nat.le_of_ble_eq_true rfl | omega | decide) | ((with_reducible apply Vl.mk (α := Int)); · (first | (with_reducible exact bits_keep _ _ _ _) | ((rewrite [tdiv_pos]); (focus (first | exact wi64 (by omega) (by omega) | exact wu32 (by omega) (by omega) | exact wi32 (by omega) (by omega))); omega) | exact tmod_pos (by omega) | exact wi64 (by omega) (by omega) | exact wu32 (by omega) (by omega) | exact wu32' _ | exact wu8 (by omega) (by omega) | exact wu64 (by omega) (by omega) | exact wi32 (by omega) (by omega) | rfl)) | ((with_reducible first | apply Vl.mk (α := Bool) | apply Vl.mk (α := Nat) | apply Vl.mk (α := ByteArray) | apply Ge.mk (α := Row) | apply Ge.mk (α := SV) | apply Ge.mk (α := AV)); · exact rfl) | (refine And.intro rfl ?_) | ((with_reducible first | apply Vl.mk (α := List SV) | apply Vl.mk (α := Ef) | apply Vl.mk (α := TV) | apply Ge.mk (α := List SV) | apply Sg.mk | apply Sk.mk); · (first | exact setAll_eq rfl | exact sg_all _ rfl | exact sk_all _ rfl rfl | ((first | apply sg_fc | apply sk_fc | (apply fc_eq; (conv => arg 1; whnf); apply fc_some) | apply fc_eq); (repeat' (first | exact fc_ren (wsv_scal _) | exact fc_ren (by assumption) | ((conv => arg 1; whnf); first | exact fc_nil | apply fc_cons | exact fc_int | exact fc_bool | exact fc_n | exact fc_ns | exact fc_ptr | exact fc_sl | exact fc_str | exact fc_unk | exact fc_fn | apply fc_s | apply fc_agg | apply fc_ta | apply fc_tup | exact fc_an | apply fc_ac | exact fc_tu | exact fc_nat | exact fc_bo | exact fc_none | apply fc_some | apply fc_pair | apply fc_row | apply fc_ef))); (all_goals exact rfl)) | ((dsimp only [Res.ef, renT, renA, renS, renN, nwN, upN, renRow, List.map_cons, List.map_nil, List.length_cons, List.length_nil]); first | done | exact rfl) | (dsimp only [setAll, List.set_cons_zero, List.set_cons_succ, List.cons_append, List.nil_append]; exact rfl) | exact rfl)) | ((first | apply Br.mk | apply Gd.mk) <;> (intro hb; first | (exact absurd hb (by decide)) | exact Bool.noConfusion (hb.symm.trans (by assumption) : true = false) | exact Bool.noConfusion (hb.symm.trans (by assumption) : false = true) | (simp only [decide_eq_true_eq, decide_eq_false_iff_not, beq_iff_eq, bne_iff_ne, beq_eq_false_iff_ne, bne_eq_false_iff_eq, Bool.not_eq_true', Bool.not_eq_false', Int.not_lt, Int.not_le, ge_iff_le, gt_iff_lt, ne_eq, Classical.not_not] at hb; first | (exfalso; omega) | skip) | skip)))); (all_goals (try (conv => whnf)))
        all_goals first
          | (refine ⟨mm - 1, rrust N A L LL (i + 1) (wsv (stM ⟨o, a, b, c, k, n⟩ y)), by omega, ?_, i + 1, stM ⟨o, a, b, c, k, n⟩ y, by omega, hy2, hy2r, hnx, rfl⟩
             rw [hs0 (by omega), hYY]
             apply wk_of (m := [(0, some 0), (1, some 1), (2, some 2), (3, some 3)])
             · repeat' (first | exact tml_nil | apply tml_cons)
               all_goals first | exact tvm_a (avm_s (svm_same rfl)) | exact tvm_a (avm_s (svm_ptr rfl)) | exact tvm_a (avm_s (svm_sl rfl))
             · show HlS _ _ [] _
               refine hls_row (rowmt_mk rfl rfl rfl rfl (svsm_scal hsc)) ?_
               refine hls_row (rowmt_mk rfl rfl rfl rfl (.cons (svm_same rfl) (.cons (svm_same rfl) (.cons (svm_sl rfl) .nil)))) ?_
               refine hls_row (rowmt_mk rfl rfl rfl rfl (svsm_scal hysc)) ?_
               refine hls_row (rowmt_mk rfl rfl rfl rfl (svsm_scal rfl)) ?_
               exact hls_nil
             · rfl
            )
          | (refine ⟨mm - 1, rrust N A L LL (i + 1) (wsv (stM ⟨o, a, b, c, k, n⟩ y)), by omega, ?_, i + 1, stM ⟨o, a, b, c, k, n⟩ y, by omega, hy2, hy2r, hnx, rfl⟩
             rw [hs1 (by omega), hY2]
             replace hy2sc : allScal Y2 = true := by rw [← hY2]; exact wsv_scal _
             apply wk_of (m := [(0, some 0), (1, some 1), (2, some 2), (3, some 3)])
             · repeat' (first | exact tml_nil | apply tml_cons)
               all_goals first | exact tvm_a (avm_s (svm_same rfl)) | exact tvm_a (avm_s (svm_ptr rfl)) | exact tvm_a (avm_s (svm_sl rfl))
             · show HlS _ _ [] _
               refine hls_row (rowmt_mk rfl rfl rfl rfl (svsm_scal hsc)) ?_
               refine hls_row (rowmt_mk rfl rfl rfl rfl (.cons (svm_same rfl) (.cons (svm_same rfl) (.cons (svm_sl rfl) .nil)))) ?_
               refine hls_row (rowmt_mk rfl rfl rfl rfl (svsm_scal hy2sc)) ?_
               refine hls_row (rowmt_mk rfl rfl rfl rfl (svsm_scal rfl)) ?_
               exact hls_nil
             · rfl
            )
          | trace_state
      · have hal : aluB o = true := hpm.resolve_left h24
        cases ht : thrB o with
        | true =>
          have hv : vM ⟨o, a, b, c, k, n⟩ y = aluN o (y.getD b 0) (y.getD c 0) := by unfold vM; rw [if_neg h24, ht]; rfl
          rw [hv] at hset1 hs1
          have ca := ralu_fn o (y.getD b 0) (y.getD c 0) gb gc
          rw [hal, ← aluN_cast _ _ _ gb gc] at ca
          have hset := hset1
          generalize hVV : aluN o (y.getD b 0) (y.getD c 0) = VV at *
          generalize hY2 : wsv (y.set a VV) = Y2 at *
          generalize hYY : wsv y = YY at *
          generalize y.getD b 0 = yb at *
          generalize y.getD c 0 = yc at *
          rw [hal, show immB o = false by unfold immB; unfold thrB at ht; simp only [decide_eq_true_eq] at ht; exact decide_eq_false (by omega)] at c3
          (repeat' ((conv => whnf); first | ((with_reducible apply Vl.mk (α := Int)); · with_reducible first | exact q2)  |  ((with_reducible apply Vl.mk (α := Nat)); · with_reducible first | exact x1)  |  (apply Sg.mk; · exact seg)  |  ((with_reducible apply Ge.mk (α := SV)); · first | exact rb | exact rc)  |  (apply Sd.mk; · (refine ⟨rfl, rfl, rfl, ?_⟩; show 0 + ((a : Nat) : Int).toNat * 1 + 1 ≤ YY.length; omega))  |  ((with_reducible apply Vl.mk (α := List SV)); · with_reducible exact hset)  |  (refine vcall_pure (f := 22) (ca) rfl ?_)  |  (refine vcall_pure (f := 33) (c3) rfl ?_) | (with_reducible apply sd_draw; · kernel_rfl) | (apply Sd.mk; · first | exact rfl | trivial | omega | (repeat' apply And.intro) <;> first | exact rfl | exact Nat.le_of_ble_eq_true rfl | omega | decide) | ((with_reducible apply Vl.mk (α := Int)); · (first | (with_reducible exact bits_keep _ _ _ _) | ((rewrite [tdiv_pos]); (focus (first | exact wi64 (by omega) (by omega) | exact wu32 (by omega) (by omega) | exact wi32 (by omega) (by omega))); omega) | exact tmod_pos (by omega) | exact wi64 (by omega) (by omega) | exact wu32 (by omega) (by omega) | exact wu32' _ | exact wu8 (by omega) (by omega) | exact wu64 (by omega) (by omega) | exact wi32 (by omega) (by omega) | rfl)) | ((with_reducible first | apply Vl.mk (α := Bool) | apply Vl.mk (α := Nat) | apply Vl.mk (α := ByteArray) | apply Ge.mk (α := Row) | apply Ge.mk (α := SV) | apply Ge.mk (α := AV)); · exact rfl) | (refine And.intro rfl ?_) | ((with_reducible first | apply Vl.mk (α := List SV) | apply Vl.mk (α := Ef) | apply Vl.mk (α := TV) | apply Ge.mk (α := List SV) | apply Sg.mk | apply Sk.mk); · (first | exact setAll_eq rfl | exact sg_all _ rfl | exact sk_all _ rfl rfl | ((first | apply sg_fc | apply sk_fc | (apply fc_eq; (conv => arg 1; whnf); apply fc_some) | apply fc_eq); (repeat' (first | exact fc_ren (wsv_scal _) | exact fc_ren (by assumption) | ((conv => arg 1; whnf); first | exact fc_nil | apply fc_cons | exact fc_int | exact fc_bool | exact fc_n | exact fc_ns | exact fc_ptr | exact fc_sl | exact fc_str | exact fc_unk | exact fc_fn | apply fc_s | apply fc_agg | apply fc_ta | apply fc_tup | exact fc_an | apply fc_ac | exact fc_tu | exact fc_nat | exact fc_bo | exact fc_none | apply fc_some | apply fc_pair | apply fc_row | apply fc_ef))); (all_goals exact rfl)) | ((dsimp only [Res.ef, renT, renA, renS, renN, nwN, upN, renRow, List.map_cons, List.map_nil, List.length_cons, List.length_nil]); first | done | exact rfl) | (dsimp only [setAll, List.set_cons_zero, List.set_cons_succ, List.cons_append, List.nil_append]; exact rfl) | exact rfl)) | ((first | apply Br.mk | apply Gd.mk) <;> (intro hb; first | (exact absurd hb (by decide)) | exact Bool.noConfusion (hb.symm.trans (by assumption) : true = false) | exact Bool.noConfusion (hb.symm.trans (by assumption) : false = true) | (simp only [decide_eq_true_eq, decide_eq_false_iff_not, beq_iff_eq, bne_iff_ne, beq_eq_false_iff_ne, bne_eq_false_iff_eq, Bool.not_eq_true', Bool.not_eq_false', Int.not_lt, Int.not_le, ge_iff_le, gt_iff_lt, ne_eq, Classical.not_not] at hb; first | (exfalso; omega) | skip) | skip)))); (all_goals (try (conv => whnf)))
          all_goals first
            | (refine ⟨mm - 1, rrust N A L LL (i + 1) (wsv (stM ⟨o, a, b, c, k, n⟩ y)), by omega, ?_, i + 1, stM ⟨o, a, b, c, k, n⟩ y, by omega, hy2, hy2r, hnx, rfl⟩
               rw [hs0 (by omega), hYY]
               apply wk_of (m := [(0, some 0), (1, some 1), (2, some 2), (3, some 3)])
               · repeat' (first | exact tml_nil | apply tml_cons)
                 all_goals first | exact tvm_a (avm_s (svm_same rfl)) | exact tvm_a (avm_s (svm_ptr rfl)) | exact tvm_a (avm_s (svm_sl rfl))
               · show HlS _ _ [] _
                 refine hls_row (rowmt_mk rfl rfl rfl rfl (svsm_scal hsc)) ?_
                 refine hls_row (rowmt_mk rfl rfl rfl rfl (.cons (svm_same rfl) (.cons (svm_same rfl) (.cons (svm_sl rfl) .nil)))) ?_
                 refine hls_row (rowmt_mk rfl rfl rfl rfl (svsm_scal hysc)) ?_
                 refine hls_row (rowmt_mk rfl rfl rfl rfl (svsm_scal rfl)) ?_
                 exact hls_nil
               · rfl
              )
            | (refine ⟨mm - 1, rrust N A L LL (i + 1) (wsv (stM ⟨o, a, b, c, k, n⟩ y)), by omega, ?_, i + 1, stM ⟨o, a, b, c, k, n⟩ y, by omega, hy2, hy2r, hnx, rfl⟩
               rw [hs1 (by omega), hY2]
               replace hy2sc : allScal Y2 = true := by rw [← hY2]; exact wsv_scal _
               apply wk_of (m := [(0, some 0), (1, some 1), (2, some 2), (3, some 3)])
               · repeat' (first | exact tml_nil | apply tml_cons)
                 all_goals first | exact tvm_a (avm_s (svm_same rfl)) | exact tvm_a (avm_s (svm_ptr rfl)) | exact tvm_a (avm_s (svm_sl rfl))
               · show HlS _ _ [] _
                 refine hls_row (rowmt_mk rfl rfl rfl rfl (svsm_scal hsc)) ?_
                 refine hls_row (rowmt_mk rfl rfl rfl rfl (.cons (svm_same rfl) (.cons (svm_same rfl) (.cons (svm_sl rfl) .nil)))) ?_
                 refine hls_row (rowmt_mk rfl rfl rfl rfl (svsm_scal hy2sc)) ?_
                 refine hls_row (rowmt_mk rfl rfl rfl rfl (svsm_scal rfl)) ?_
                 exact hls_nil
               · rfl
              )
            | trace_state
        | false =>
          have hv : vM ⟨o, a, b, c, k, n⟩ y = aluN o (y.getD b 0) k := by unfold vM; rw [if_neg h24, ht]; rfl
          rw [hv] at hset1 hs1
          have ca := ralu_fn o (y.getD b 0) k gb hmok.2.2.2
          rw [hal, ← aluN_cast _ _ _ gb hmok.2.2.2] at ca
          have hset := hset1
          generalize hVV : aluN o (y.getD b 0) k = VV at *
          generalize hY2 : wsv (y.set a VV) = Y2 at *
          generalize hYY : wsv y = YY at *
          generalize y.getD b 0 = yb at *
          generalize y.getD c 0 = yc at *
          rw [hal, show immB o = true by unfold immB; unfold thrB at ht; unfold aluB at hal; simp only [decide_eq_true_eq, decide_eq_false_iff_not] at ht hal; exact decide_eq_true (by omega)] at c3
          (repeat' ((conv => whnf); first | ((with_reducible apply Vl.mk (α := Int)); · with_reducible first | exact q2)  |  ((with_reducible apply Vl.mk (α := Nat)); · with_reducible first | exact x1)  |  (apply Sg.mk; · exact seg)  |  ((with_reducible apply Ge.mk (α := SV)); · first | exact rb | exact rc)  |  (apply Sd.mk; · (refine ⟨rfl, rfl, rfl, ?_⟩; show 0 + ((a : Nat) : Int).toNat * 1 + 1 ≤ YY.length; omega))  |  ((with_reducible apply Vl.mk (α := List SV)); · with_reducible exact hset)  |  (refine vcall_pure (f := 22) (ca) rfl ?_)  |  (refine vcall_pure (f := 33) (c3) rfl ?_) | (with_reducible apply sd_draw; · kernel_rfl) | (apply Sd.mk; · first | exact rfl | trivial | omega | (repeat' apply And.intro) <;> first | exact rfl | exact Nat.le_of_ble_eq_true rfl | omega | decide) | ((with_reducible apply Vl.mk (α := Int)); · (first | (with_reducible exact bits_keep _ _ _ _) | ((rewrite [tdiv_pos]); (focus (first | exact wi64 (by omega) (by omega) | exact wu32 (by omega) (by omega) | exact wi32 (by omega) (by omega))); omega) | exact tmod_pos (by omega) | exact wi64 (by omega) (by omega) | exact wu32 (by omega) (by omega) | exact wu32' _ | exact wu8 (by omega) (by omega) | exact wu64 (by omega) (by omega) | exact wi32 (by omega) (by omega) | rfl)) | ((with_reducible first | apply Vl.mk (α := Bool) | apply Vl.mk (α := Nat) | apply Vl.mk (α := ByteArray) | apply Ge.mk (α := Row) | apply Ge.mk (α := SV) | apply Ge.mk (α := AV)); · exact rfl) | (refine And.intro rfl ?_) | ((with_reducible first | apply Vl.mk (α := List SV) | apply Vl.mk (α := Ef) | apply Vl.mk (α := TV) | apply Ge.mk (α := List SV) | apply Sg.mk | apply Sk.mk); · (first | exact setAll_eq rfl | exact sg_all _ rfl | exact sk_all _ rfl rfl | ((first | apply sg_fc | apply sk_fc | (apply fc_eq; (conv => arg 1; whnf); apply fc_some) | apply fc_eq); (repeat' (first | exact fc_ren (wsv_scal _) | exact fc_ren (by assumption) | ((conv => arg 1; whnf); first | exact fc_nil | apply fc_cons | exact fc_int | exact fc_bool | exact fc_n | exact fc_ns | exact fc_ptr | exact fc_sl | exact fc_str | exact fc_unk | exact fc_fn | apply fc_s | apply fc_agg | apply fc_ta | apply fc_tup | exact fc_an | apply fc_ac | exact fc_tu | exact fc_nat | exact fc_bo | exact fc_none | apply fc_some | apply fc_pair | apply fc_row | apply fc_ef))); (all_goals exact rfl)) | ((dsimp only [Res.ef, renT, renA, renS, renN, nwN, upN, renRow, List.map_cons, List.map_nil, List.length_cons, List.length_nil]); first | done | exact rfl) | (dsimp only [setAll, List.set_cons_zero, List.set_cons_succ, List.cons_append, List.nil_append]; exact rfl) | exact rfl)) | ((first | apply Br.mk | apply Gd.mk) <;> (intro hb; first | (exact absurd hb (by decide)) | exact Bool.noConfusion (hb.symm.trans (by assumption) : true = false) | exact Bool.noConfusion (hb.symm.trans (by assumption) : false = true) | (simp only [decide_eq_true_eq, decide_eq_false_iff_not, beq_iff_eq, bne_iff_ne, beq_eq_false_iff_ne, bne_eq_false_iff_eq, Bool.not_eq_true', Bool.not_eq_false', Int.not_lt, Int.not_le, ge_iff_le, gt_iff_lt, ne_eq, Classical.not_not] at hb; first | (exfalso; omega) | skip) | skip)))); (all_goals (try (conv => whnf)))
          all_goals first
            | (refine ⟨mm - 1, rrust N A L LL (i + 1) (wsv (stM ⟨o, a, b, c, k, n⟩ y)), by omega, ?_, i + 1, stM ⟨o, a, b, c, k, n⟩ y, by omega, hy2, hy2r, hnx, rfl⟩
               rw [hs0 (by omega), hYY]
               apply wk_of (m := [(0, some 0), (1, some 1), (2, some 2), (3, some 3)])
               · repeat' (first | exact tml_nil | apply tml_cons)
                 all_goals first | exact tvm_a (avm_s (svm_same rfl)) | exact tvm_a (avm_s (svm_ptr rfl)) | exact tvm_a (avm_s (svm_sl rfl))
               · show HlS _ _ [] _
                 refine hls_row (rowmt_mk rfl rfl rfl rfl (svsm_scal hsc)) ?_
                 refine hls_row (rowmt_mk rfl rfl rfl rfl (.cons (svm_same rfl) (.cons (svm_same rfl) (.cons (svm_sl rfl) .nil)))) ?_
                 refine hls_row (rowmt_mk rfl rfl rfl rfl (svsm_scal hysc)) ?_
                 refine hls_row (rowmt_mk rfl rfl rfl rfl (svsm_scal rfl)) ?_
                 exact hls_nil
               · rfl
              )
            | (refine ⟨mm - 1, rrust N A L LL (i + 1) (wsv (stM ⟨o, a, b, c, k, n⟩ y)), by omega, ?_, i + 1, stM ⟨o, a, b, c, k, n⟩ y, by omega, hy2, hy2r, hnx, rfl⟩
               rw [hs1 (by omega), hY2]
               replace hy2sc : allScal Y2 = true := by rw [← hY2]; exact wsv_scal _
               apply wk_of (m := [(0, some 0), (1, some 1), (2, some 2), (3, some 3)])
               · repeat' (first | exact tml_nil | apply tml_cons)
                 all_goals first | exact tvm_a (avm_s (svm_same rfl)) | exact tvm_a (avm_s (svm_ptr rfl)) | exact tvm_a (avm_s (svm_sl rfl))
               · show HlS _ _ [] _
                 refine hls_row (rowmt_mk rfl rfl rfl rfl (svsm_scal hsc)) ?_
                 refine hls_row (rowmt_mk rfl rfl rfl rfl (.cons (svm_same rfl) (.cons (svm_same rfl) (.cons (svm_sl rfl) .nil)))) ?_
                 refine hls_row (rowmt_mk rfl rfl rfl rfl (svsm_scal hy2sc)) ?_
                 refine hls_row (rowmt_mk rfl rfl rfl rfl (svsm_scal rfl)) ?_
                 exact hls_nil
               · rfl
              )
            | trace_state
    · have hdn : l.drop i = [] := List.drop_eq_nil_of_le (by omega)
      rw [hdn] at hinv
      change y = _ at hinv
      rw [← hinv]
      have hyl : (wsv y).length = 16 := by simp [hy]
      have hyk := wsv_known y
      generalize wsv y = YY at *
      have hall : ∀ M : List SV, M.length = 16 → setAll M 0 YY = YY := fun M hM => setAll_all (by rw [hM, hyl])
      (repeat' ((conv => whnf); first | (apply Sd.mk; · first | exact ⟨hyl, hyk, rfl, by show 0 + YY.length ≤ 16; omega⟩)  |  ((with_reducible apply Vl.mk (α := List SV)); · ((with_reducible refine hall _ ?_); (focus exact rfl)))  |  (apply Sg.mk; · exact sg_all YY hyl) | (with_reducible apply sd_draw; · kernel_rfl) | (apply Sd.mk; · first | exact rfl | trivial | omega | (repeat' apply And.intro) <;> first | exact rfl | exact Nat.le_of_ble_eq_true rfl | omega | decide) | ((with_reducible apply Vl.mk (α := Int)); · (first | (with_reducible exact bits_keep _ _ _ _) | ((rewrite [tdiv_pos]); (focus (first | exact wi64 (by omega) (by omega) | exact wu32 (by omega) (by omega) | exact wi32 (by omega) (by omega))); omega) | exact tmod_pos (by omega) | exact wi64 (by omega) (by omega) | exact wu32 (by omega) (by omega) | exact wu32' _ | exact wu8 (by omega) (by omega) | exact wu64 (by omega) (by omega) | exact wi32 (by omega) (by omega) | rfl)) | ((with_reducible first | apply Vl.mk (α := Bool) | apply Vl.mk (α := Nat) | apply Vl.mk (α := ByteArray) | apply Ge.mk (α := Row) | apply Ge.mk (α := SV) | apply Ge.mk (α := AV)); · exact rfl) | (refine And.intro rfl ?_) | ((with_reducible first | apply Vl.mk (α := List SV) | apply Vl.mk (α := Ef) | apply Vl.mk (α := TV) | apply Ge.mk (α := List SV) | apply Sg.mk | apply Sk.mk); · (first | exact setAll_eq rfl | exact sg_all _ rfl | exact sk_all _ rfl rfl | ((first | apply sg_fc | apply sk_fc | (apply fc_eq; (conv => arg 1; whnf); apply fc_some) | apply fc_eq); (repeat' (first | exact fc_ren (wsv_scal _) | exact fc_ren (by assumption) | ((conv => arg 1; whnf); first | exact fc_nil | apply fc_cons | exact fc_int | exact fc_bool | exact fc_n | exact fc_ns | exact fc_ptr | exact fc_sl | exact fc_str | exact fc_unk | exact fc_fn | apply fc_s | apply fc_agg | apply fc_ta | apply fc_tup | exact fc_an | apply fc_ac | exact fc_tu | exact fc_nat | exact fc_bo | exact fc_none | apply fc_some | apply fc_pair | apply fc_row | apply fc_ef))); (all_goals exact rfl)) | ((dsimp only [Res.ef, renT, renA, renS, renN, nwN, upN, renRow, List.map_cons, List.map_nil, List.length_cons, List.length_nil]); first | done | exact rfl) | (dsimp only [setAll, List.set_cons_zero, List.set_cons_succ, List.cons_append, List.nil_append]; exact rfl) | exact rfl)) | ((first | apply Br.mk | apply Gd.mk) <;> (intro hb; first | (exact absurd hb (by decide)) | exact Bool.noConfusion (hb.symm.trans (by assumption) : true = false) | exact Bool.noConfusion (hb.symm.trans (by assumption) : false = true) | (simp only [decide_eq_true_eq, decide_eq_false_iff_not, beq_iff_eq, bne_iff_ne, beq_eq_false_iff_ne, bne_eq_false_iff_eq, Bool.not_eq_true', Bool.not_eq_false', Int.not_lt, Int.not_le, ge_iff_le, gt_iff_lt, ne_eq, Classical.not_not] at hb; first | (exfalso; omega) | skip) | skip)))); (all_goals (try (conv => whnf)))
      all_goals first | ((apply Fin.mk (m := [(0, some 0)]); (focus exact rfl); (all_goals ((try (show HlS _ _ [] _)); first | ((repeat' (first | exact SVsM.nil | exact avsm_nil | exact svm_same rfl | exact svm_ptr rfl | exact svm_sl rfl | exact svm_slnil rfl | exact svsm_scal rfl | exact svsm_scal (wsv_scal _) | exact svsm_scal (by assumption) | exact hls_nil | apply SVsM.cons | apply tvm_a | apply tvm_tup | apply avm_agg | apply avm_s | apply avsm_cons | exact trivial | (refine hls_skip rfl ?_) | apply hls_none | apply hls_row | (refine rowmt_mk rfl rfl rfl rfl ?_) | exact rowmt_nil rfl rfl)); done) | exact rfl)))) | trace_state
end Go.Proofs.Ytpkbfpjkpiimiaa
