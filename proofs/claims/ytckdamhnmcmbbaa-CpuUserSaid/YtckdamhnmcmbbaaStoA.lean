/- Memory: bytes, and stores. -/
import Derived.Test.YtckdamhnmcmbbaaClnA
import Derived.Test.YtckdamhnmcmbbaaCpuD
namespace Go.Proofs.Ytckdamhnmcmbbaa
open Go Go.RowKit
set_option linter.unusedSimpArgs false
set_option linter.unusedVariables false

def ld1 (n a : Nat) : Bool := decide (a + 1 ≤ mpg n * 128)
theorem ld1_len {n a : Nat} (h : ld1 n a = true) : a / 4 < n := by
  unfold ld1 mpg at h; simp at h; split at h <;> omega
set_option maxRecDepth 100000 in
theorem within1_fn (xs : List Nat) (n a : Nat) (hn : n < 4294967296) (ha : a < 4294967296) : Fn Try.prog 80 [.s (.sl 0 0 n), .s (.int .u32 a), .s (.int .i64 1)] [⟨false, 1, wsv xs⟩] (· = ⟨.a (.s (.bool (ld1 n a))), [], []⟩) := by
  have hm := mpg_le n
  refine fn_of_vc mixed tys_ok _ _ Try.func80 (by kernel_rfl) rfl Try.ntmps80 (by rw [Try.results80]) rfl ?_; dsimp only [argTm, argHl, Nat.zero_add, Nat.reduceAdd, List.length_nil, List.length_cons]
  (repeat' ((conv => whnf); first | (refine vcall_det (f := 96) (pages_fn xs n hn) [⟨0, 0⟩] [(0, ⟨false, 1, wsv xs⟩)] (by first | exact rfl | simp [renA, renS, renN]) ⟨rfl, trivial⟩ (⟨rfl, rowM_ro (wsv_scal _), trivial⟩) ⟨rfl, noUp⟩ ?_) | (with_reducible apply sd_draw; · kernel_rfl) | (apply Sd.mk; · first | exact rfl | trivial | omega | (repeat' apply And.intro) <;> first | exact rfl | exact Nat.le_of_ble_eq_true rfl | omega | decide) | ((with_reducible apply Vl.mk (α := Int)); · (first | (with_reducible exact bits_keep _ _ _ _) | ((rewrite [tdiv_pos]); (focus (first | exact wi64 (by omega) (by omega) | exact wu32 (by omega) (by omega) | exact wi32 (by omega) (by omega))); omega) | exact tmod_pos (by omega) | exact wi64 (by omega) (by omega) | exact wu32 (by omega) (by omega) | exact wu32' _ | exact wu8 (by omega) (by omega) | exact wu64 (by omega) (by omega) | exact wi32 (by omega) (by omega) | rfl)) | ((with_reducible first | apply Vl.mk (α := Bool) | apply Vl.mk (α := Nat) | apply Vl.mk (α := ByteArray) | apply Ge.mk (α := Row) | apply Ge.mk (α := SV) | apply Ge.mk (α := AV)); · exact rfl) | (refine And.intro rfl ?_) | ((with_reducible first | apply Vl.mk (α := List SV) | apply Vl.mk (α := Ef) | apply Vl.mk (α := TV) | apply Ge.mk (α := List SV) | apply Sg.mk | apply Sk.mk); · (first | exact setAll_eq rfl | exact sg_all _ rfl | exact sk_all _ rfl rfl | ((first | apply sg_fc | apply sk_fc | (apply fc_eq; (conv => arg 1; whnf); apply fc_some) | apply fc_eq); (repeat' (first | exact fc_ren (wsv_scal _) | exact fc_ren (by assumption) | ((conv => arg 1; whnf); first | exact fc_nil | apply fc_cons | exact fc_int | exact fc_bool | exact fc_n | exact fc_ns | exact fc_ptr | exact fc_sl | exact fc_str | exact fc_unk | exact fc_fn | apply fc_s | apply fc_agg | apply fc_ta | apply fc_tup | exact fc_an | apply fc_ac | exact fc_tu | exact fc_nat | exact fc_bo | exact fc_none | apply fc_some | apply fc_pair | apply fc_row | apply fc_ef))); (all_goals exact rfl)) | ((dsimp only [Res.ef, renT, renA, renS, renN, nwN, upN, renRow, List.map_cons, List.map_nil, List.length_cons, List.length_nil]); first | done | exact rfl) | (dsimp only [setAll, List.set_cons_zero, List.set_cons_succ, List.cons_append, List.nil_append]; exact rfl) | exact rfl)) | ((first | apply Br.mk | apply Gd.mk) <;> (intro hb; first | (exact absurd hb (by decide)) | exact Bool.noConfusion (hb.symm.trans (by assumption) : true = false) | exact Bool.noConfusion (hb.symm.trans (by assumption) : false = true) | (simp only [decide_eq_true_eq, decide_eq_false_iff_not, beq_iff_eq, bne_iff_ne, beq_eq_false_iff_ne, bne_eq_false_iff_eq, Bool.not_eq_true', Bool.not_eq_false', Int.not_lt, Int.not_le, ge_iff_le, gt_iff_lt, ne_eq, Classical.not_not] at hb; first | (exfalso; omega) | skip) | skip)))); (all_goals (try (conv => whnf)))
  all_goals
    refine fin_ro1 rfl (wsv_scal _) rfl ?_
    simp only [mkRes]
    congr 3
    have hy : decide ((a : Int) + 1 ≤ (mpg n : Nat) * 128) = decide (a + 1 ≤ mpg n * 128) := by congr 1; apply propext; omega
    unfold ld1
    rw [← hy]
/-- A byte of a word. -/
def byN (w a : Nat) : Nat := w / 2 ^ (a % 4 * 8) % 2 ^ 8
theorem at_1 (a : Nat) : ((a : Int).tmod 4) = ((a % 4 : Nat) : Int) := by rw [tmod_pos (by omega)]; omega
theorem at_2 (a : Nat) : IntKind.i64.wrap ((a % 4 : Nat) : Int) = ((a % 4 : Nat) : Int) := wi64 (by omega) (by omega)
theorem at_3 (a : Nat) : IntKind.i64.wrap (((a % 4 : Nat) : Int) * 8) = ((a % 4 * 8 : Nat) : Int) := by rw [wi64 (by omega) (by omega)]; omega
theorem xs_lt {xs : List Nat} (h : ∀ x ∈ xs, x < 4294967296) (j : Nat) : xs.getD j 0 < 4294967296 := by
  by_cases hj : j < xs.length
  · rw [List.getD_eq_getElem?_getD, List.getElem?_eq_getElem hj]; exact h _ (List.getElem_mem hj)
  · rw [List.getD_eq_getElem?_getD, List.getElem?_eq_none (by omega)]; simp
set_option maxRecDepth 100000 in
theorem load1_ok (xs : List Nat) (n a : Nat) (hl : xs.length = n) (hx : ∀ x ∈ xs, x < 4294967296) (hn : n < 4294967296) (ha : a < 4294967296) (hld : ld1 n a = true) : Fn Try.prog 60 [.s (.sl 0 0 n), .s (.int .u32 a), .s (.int .i64 1)] [⟨false, 1, wsv xs⟩] (· = ⟨.tup [.s (.int .u32 (byN (xs.getD (a / 4) 0) a : Nat)), .s (.bool true)], [], []⟩) := by
  have hw := within1_fn xs n a hn ha
  rw [hld] at hw
  have hln := ld1_len hld
  have hf := field_fn (xs.getD (a / 4) 0) (a % 4 * 8) 8 (xs_lt hx _) (by omega) (by omega) (by omega)
  have hg := wsv_get xs (a / 4) (by omega)
  generalize xs.getD (a / 4) 0 = W at *
  change Fn _ _ _ _ (· = ⟨.a (.s (.int .u32 ((byN W a : Nat) : Int))), _, _⟩) at hf
  generalize byN W a = B at *
  refine fn_of_vc mixed tys_ok _ _ Try.func60 (by kernel_rfl) rfl Try.ntmps60 (by rw [Try.results60]) rfl ?_; dsimp only [argTm, argHl, Nat.zero_add, Nat.reduceAdd, List.length_nil, List.length_cons]
  (repeat' ((conv => whnf); first | (refine vcall_det (f := 80) (hw) [⟨0, 0⟩] [(0, ⟨false, 1, wsv xs⟩)] (by first | exact rfl | simp [renA, renS, renN]) ⟨rfl, trivial⟩ (⟨rfl, rowM_ro (wsv_scal _), trivial⟩) ⟨rfl, noUp⟩ ?_)  |  (apply Sd.mk; · omega)  |  ((with_reducible apply Vl.mk (α := Nat)); · exact ldi a)  |  ((with_reducible apply Ge.mk (α := SV)); · exact hg)  |  ((with_reducible apply Vl.mk (α := Int)); · with_reducible first | exact at_1 a | exact at_2 a | exact at_3 a)  |  (refine vcall_pure (f := 61) (hf) rfl ?_) | (with_reducible apply sd_draw; · kernel_rfl) | (apply Sd.mk; · first | exact rfl | trivial | omega | (repeat' apply And.intro) <;> first | exact rfl | exact Nat.le_of_ble_eq_true rfl | omega | decide) | ((with_reducible apply Vl.mk (α := Int)); · (first | (with_reducible exact bits_keep _ _ _ _) | ((rewrite [tdiv_pos]); (focus (first | exact wi64 (by omega) (by omega) | exact wu32 (by omega) (by omega) | exact wi32 (by omega) (by omega))); omega) | exact tmod_pos (by omega) | exact wi64 (by omega) (by omega) | exact wu32 (by omega) (by omega) | exact wu32' _ | exact wu8 (by omega) (by omega) | exact wu64 (by omega) (by omega) | exact wi32 (by omega) (by omega) | rfl)) | ((with_reducible first | apply Vl.mk (α := Bool) | apply Vl.mk (α := Nat) | apply Vl.mk (α := ByteArray) | apply Ge.mk (α := Row) | apply Ge.mk (α := SV) | apply Ge.mk (α := AV)); · exact rfl) | (refine And.intro rfl ?_) | ((with_reducible first | apply Vl.mk (α := List SV) | apply Vl.mk (α := Ef) | apply Vl.mk (α := TV) | apply Ge.mk (α := List SV) | apply Sg.mk | apply Sk.mk); · (first | exact setAll_eq rfl | exact sg_all _ rfl | exact sk_all _ rfl rfl | ((first | apply sg_fc | apply sk_fc | (apply fc_eq; (conv => arg 1; whnf); apply fc_some) | apply fc_eq); (repeat' (first | exact fc_ren (wsv_scal _) | exact fc_ren (by assumption) | ((conv => arg 1; whnf); first | exact fc_nil | apply fc_cons | exact fc_int | exact fc_bool | exact fc_n | exact fc_ns | exact fc_ptr | exact fc_sl | exact fc_str | exact fc_unk | exact fc_fn | apply fc_s | apply fc_agg | apply fc_ta | apply fc_tup | exact fc_an | apply fc_ac | exact fc_tu | exact fc_nat | exact fc_bo | exact fc_none | apply fc_some | apply fc_pair | apply fc_row | apply fc_ef))); (all_goals exact rfl)) | ((dsimp only [Res.ef, renT, renA, renS, renN, nwN, upN, renRow, List.map_cons, List.map_nil, List.length_cons, List.length_nil]); first | done | exact rfl) | (dsimp only [setAll, List.set_cons_zero, List.set_cons_succ, List.cons_append, List.nil_append]; exact rfl) | exact rfl)) | ((first | apply Br.mk | apply Gd.mk) <;> (intro hb; first | (exact absurd hb (by decide)) | exact Bool.noConfusion (hb.symm.trans (by assumption) : true = false) | exact Bool.noConfusion (hb.symm.trans (by assumption) : false = true) | (simp only [decide_eq_true_eq, decide_eq_false_iff_not, beq_iff_eq, bne_iff_ne, beq_eq_false_iff_ne, bne_eq_false_iff_eq, Bool.not_eq_true', Bool.not_eq_false', Int.not_lt, Int.not_le, ge_iff_le, gt_iff_lt, ne_eq, Classical.not_not] at hb; first | (exfalso; omega) | skip) | skip)))); (all_goals (try (conv => whnf)))
  all_goals exact fin_ro1 rfl (wsv_scal _) rfl rfl
/-- A word with one byte changed. -/
def sfI (w l v : Nat) : Int := bits .or .u32 (bits .andNot .u32 (w : Int) (IntKind.u32.wrap (255 * 2 ^ min ((l : Nat) : Int).toNat IntKind.u32.bits))) (IntKind.u32.wrap (bits .and .u32 (v : Int) 255 * 2 ^ min ((l : Nat) : Int).toNat IntKind.u32.bits))
theorem bits_r (op : BinOp) (a b : Int) : 0 ≤ bits op .u32 a b ∧ bits op .u32 a b < 4294967296 := by
  unfold bits
  rw [wu32']
  omega
def sfN (w l v : Nat) : Nat := (sfI w l v).toNat
theorem sfN_lt (w l v : Nat) : sfN w l v < 4294967296 := by
  have : 0 ≤ sfI w l v ∧ sfI w l v < 4294967296 := bits_r _ _ _
  unfold sfN; omega
theorem sfN_cast (w l v : Nat) : ((sfN w l v : Nat) : Int) = sfI w l v := by
  have : 0 ≤ sfI w l v ∧ sfI w l v < 4294967296 := bits_r _ _ _
  unfold sfN; omega
set_option maxRecDepth 100000 in
theorem setField_fn (w l v : Nat) (hl : l ≤ 31) : Fn Try.prog 83 [.s (.int .u32 w), .s (.int .i64 l), .s (.int .i64 8), .s (.int .u32 v)] [] (· = ⟨.a (.s (.int .u32 (sfN w l v : Nat))), [], []⟩) := by
  have hm : Fn Try.prog 81 [.s (.int .i64 8)] [] (· = ⟨.a (.s (.int .u32 255)), [], []⟩) := mask_fn 8 (by omega)
  have e1 : IntKind.u32.wrap (255 * 2 ^ min ((l : Nat) : Int).toNat IntKind.u32.bits) = IntKind.u32.wrap (255 * 2 ^ min ((l : Nat) : Int).toNat IntKind.u32.bits) := rfl
  have e2 : IntKind.u32.wrap (bits .and .u32 (v : Int) 255 * 2 ^ min ((l : Nat) : Int).toNat IntKind.u32.bits) = IntKind.u32.wrap (bits .and .u32 (v : Int) 255 * 2 ^ min ((l : Nat) : Int).toNat IntKind.u32.bits) := rfl
  rw [sfN_cast]
  refine fn_of_vc mixed tys_ok _ _ Try.func83 (by kernel_rfl) rfl Try.ntmps83 (by rw [Try.results83]) rfl ?_; dsimp only [argTm, argHl, Nat.zero_add, Nat.reduceAdd, List.length_nil, List.length_cons]
  (repeat' ((conv => whnf); first | (refine vcall_pure (f := 81) (hm) rfl ?_)  |  ((with_reducible apply Vl.mk (α := Int)); · with_reducible first | exact e1 | exact e2) | (with_reducible apply sd_draw; · kernel_rfl) | (apply Sd.mk; · first | exact rfl | trivial | omega | (repeat' apply And.intro) <;> first | exact rfl | exact Nat.le_of_ble_eq_true rfl | omega | decide) | ((with_reducible apply Vl.mk (α := Int)); · (first | (with_reducible exact bits_keep _ _ _ _) | ((rewrite [tdiv_pos]); (focus (first | exact wi64 (by omega) (by omega) | exact wu32 (by omega) (by omega) | exact wi32 (by omega) (by omega))); omega) | exact tmod_pos (by omega) | exact wi64 (by omega) (by omega) | exact wu32 (by omega) (by omega) | exact wu32' _ | exact wu8 (by omega) (by omega) | exact wu64 (by omega) (by omega) | exact wi32 (by omega) (by omega) | rfl)) | ((with_reducible first | apply Vl.mk (α := Bool) | apply Vl.mk (α := Nat) | apply Vl.mk (α := ByteArray) | apply Ge.mk (α := Row) | apply Ge.mk (α := SV) | apply Ge.mk (α := AV)); · exact rfl) | (refine And.intro rfl ?_) | ((with_reducible first | apply Vl.mk (α := List SV) | apply Vl.mk (α := Ef) | apply Vl.mk (α := TV) | apply Ge.mk (α := List SV) | apply Sg.mk | apply Sk.mk); · (first | exact setAll_eq rfl | exact sg_all _ rfl | exact sk_all _ rfl rfl | ((first | apply sg_fc | apply sk_fc | (apply fc_eq; (conv => arg 1; whnf); apply fc_some) | apply fc_eq); (repeat' (first | exact fc_ren (wsv_scal _) | exact fc_ren (by assumption) | ((conv => arg 1; whnf); first | exact fc_nil | apply fc_cons | exact fc_int | exact fc_bool | exact fc_n | exact fc_ns | exact fc_ptr | exact fc_sl | exact fc_str | exact fc_unk | exact fc_fn | apply fc_s | apply fc_agg | apply fc_ta | apply fc_tup | exact fc_an | apply fc_ac | exact fc_tu | exact fc_nat | exact fc_bo | exact fc_none | apply fc_some | apply fc_pair | apply fc_row | apply fc_ef))); (all_goals exact rfl)) | ((dsimp only [Res.ef, renT, renA, renS, renN, nwN, upN, renRow, List.map_cons, List.map_nil, List.length_cons, List.length_nil]); first | done | exact rfl) | (dsimp only [setAll, List.set_cons_zero, List.set_cons_succ, List.cons_append, List.nil_append]; exact rfl) | exact rfl)) | ((first | apply Br.mk | apply Gd.mk) <;> (intro hb; first | (exact absurd hb (by decide)) | exact Bool.noConfusion (hb.symm.trans (by assumption) : true = false) | exact Bool.noConfusion (hb.symm.trans (by assumption) : false = true) | (simp only [decide_eq_true_eq, decide_eq_false_iff_not, beq_iff_eq, bne_iff_ne, beq_eq_false_iff_ne, bne_eq_false_iff_eq, Bool.not_eq_true', Bool.not_eq_false', Int.not_lt, Int.not_le, ge_iff_le, gt_iff_lt, ne_eq, Classical.not_not] at hb; first | (exfalso; omega) | skip) | skip)))); (all_goals (try (conv => whnf)))
  all_goals exact fin_pure rfl rfl
/-- The low byte put and taken. -/
theorem sf_low (w v : Nat) (hw : w < 4294967296) (hv : v < 4294967296) : sfN w 0 v % 256 = v % 256 := by
  have e0 : (2 : Int) ^ min (((0 : Nat) : Int)).toNat IntKind.u32.bits = 1 := rfl
  have e1 : IntKind.u32.wrap (255 * (1 : Int)) = ((255 : Nat) : Int) := rfl
  have e2 : bits .and .u32 (v : Int) 255 = ((v % 256 : Nat) : Int) := and_mask v 8 hv (by omega)
  have e3 : IntKind.u32.wrap (((v % 256 : Nat) : Int) * 1) = ((v % 256 : Nat) : Int) := by rw [Int.mul_one]; exact wu32 (by omega) (by omega)
  have e4 := andNot_n w 255 hw (by omega)
  have e5 : w &&& (4294967295 - 255) = 256 * (w / 256) := by
    apply Nat.eq_of_testBit_eq
    intro i
    have : (4294967295 - 255 : Nat) = 2 ^ 8 * (2 ^ 24 - 1) := rfl
    rw [this, Nat.testBit_and, Nat.testBit_two_pow_mul, show (256 : Nat) = 2 ^ 8 from rfl, Nat.testBit_two_pow_mul, Nat.testBit_two_pow_sub_one, Nat.testBit_div_two_pow]
    by_cases h : 8 ≤ i
    · by_cases h2 : i - 8 < 24
      · simp [h, h2, show i - 8 + 8 = i by omega]
      · have : w.testBit i = false := Nat.testBit_lt_two_pow (Nat.lt_of_lt_of_le (show w < 2 ^ 32 by simpa using hw) (Nat.pow_le_pow_right (by omega) (by omega)))
        simp [h, h2, this, show i - 8 + 8 = i by omega]
    · simp [h]
  have e6 : (256 * (w / 256)) ||| (v % 256) = 256 * (w / 256) + v % 256 := (Nat.two_pow_add_eq_or_of_lt (i := 8) (show v % 256 < 2 ^ 8 from Nat.mod_lt _ (by omega)) (w / 256)).symm
  unfold sfN sfI
  rw [e0, e1, e2, e3, e4, e5, or_n _ _ (by omega) (by omega), e6]
  omega
def put1 (xs : List Nat) (a v : Nat) : List Nat := xs.set (a / 4) (sfN (xs.getD (a / 4) 0) (a % 4 * 8) v)
theorem wsv_set' (xs : List Nat) (j w : Nat) (hj : j < xs.length) : setAll (wsv xs) j [.int .u32 w] = wsv (xs.set j w) := by
  apply List.ext_getElem?
  intro i
  rw [setAll_get _ _ _ _ (by simp; omega)]
  unfold wsv
  simp only [List.getElem?_map, List.length_cons, List.length_nil, Nat.zero_add, List.getElem?_set]
  by_cases hi : i = j
  · subst hi
    rw [if_pos (by omega), if_pos rfl, if_pos hj]
    simp
  · rw [if_neg (by omega), if_neg (by omega)]
set_option maxRecDepth 100000 in
theorem store4_ok (xs : List Nat) (n a v : Nat) (hl : xs.length = n) (hn : n < 4294967296) (ha : a < 4294967296) (hld : ld4 n a = true) : Fn Try.prog 67 [.s (.sl 0 0 n), .s (.int .u32 a), .s (.int .i64 4), .s (.int .u32 v)] [⟨false, 1, wsv xs⟩] (· = ⟨.tup [.s (.sl 1 0 n), .s (.bool true)], [], [⟨true, 1, wsv (xs.set (a / 4) v)⟩]⟩) := by
  have hw := within4_fn xs n a hn ha
  rw [hld] at hw
  have hln := mpg_len hld
  have hcl := clone_fn xs n hl (by omega)
  have hset := wsv_set' xs (a / 4) v (by omega)
  have hlw : (wsv xs).length = n := by simp [hl]
  have hsc : allScal (wsv xs) = true := wsv_scal xs
  have hsc2 : allScal (wsv (xs.set (a / 4) v)) = true := wsv_scal _
  generalize wsv (xs.set (a / 4) v) = X2 at *
  generalize wsv xs = X at *
  refine fn_of_vc mixed tys_ok _ _ Try.func67 (by kernel_rfl) rfl Try.ntmps67 (by rw [Try.results67]) rfl ?_; dsimp only [argTm, argHl, Nat.zero_add, Nat.reduceAdd, List.length_nil, List.length_cons]
  (repeat' ((conv => whnf); first | (refine vcall_det (f := 80) hw [⟨0, 0⟩] [(0, ⟨false, 1, X⟩)] rfl ⟨rfl, trivial⟩ ⟨rfl, rowM_ro hsc, trivial⟩ ⟨rfl, noUp⟩ ?_)  |  (refine vcall_det (f := 77) hcl [⟨0, 0⟩] [(0, ⟨false, 1, X⟩)] rfl ⟨rfl, trivial⟩ ⟨rfl, rowM_ro hsc, trivial⟩ ⟨rfl, noUp⟩ ?_)  |  (apply Sd.mk; · omega)  |  (apply Sd.mk; · refine ⟨rfl, rfl, rfl, ?_⟩; show _ ≤ X.length; simp; omega)  |  ((with_reducible apply Vl.mk (α := Nat)); · exact ldi a)  |  ((with_reducible apply Vl.mk (α := List SV)); · with_reducible exact hset) | (with_reducible apply sd_draw; · kernel_rfl) | (apply Sd.mk; · first | exact rfl | trivial | omega | (repeat' apply And.intro) <;> first | exact rfl | exact Nat.le_of_ble_eq_true rfl | omega | decide) | ((with_reducible apply Vl.mk (α := Int)); · (first | (with_reducible exact bits_keep _ _ _ _) | ((rewrite [tdiv_pos]); (focus (first | exact wi64 (by omega) (by omega) | exact wu32 (by omega) (by omega) | exact wi32 (by omega) (by omega))); omega) | exact tmod_pos (by omega) | exact wi64 (by omega) (by omega) | exact wu32 (by omega) (by omega) | exact wu32' _ | exact wu8 (by omega) (by omega) | exact wu64 (by omega) (by omega) | exact wi32 (by omega) (by omega) | rfl)) | ((with_reducible first | apply Vl.mk (α := Bool) | apply Vl.mk (α := Nat) | apply Vl.mk (α := ByteArray) | apply Ge.mk (α := Row) | apply Ge.mk (α := SV) | apply Ge.mk (α := AV)); · exact rfl) | (refine And.intro rfl ?_) | ((with_reducible first | apply Vl.mk (α := List SV) | apply Vl.mk (α := Ef) | apply Vl.mk (α := TV) | apply Ge.mk (α := List SV) | apply Sg.mk | apply Sk.mk); · (first | exact setAll_eq rfl | exact sg_all _ rfl | exact sk_all _ rfl rfl | ((first | apply sg_fc | apply sk_fc | (apply fc_eq; (conv => arg 1; whnf); apply fc_some) | apply fc_eq); (repeat' (first | exact fc_ren (wsv_scal _) | exact fc_ren (by assumption) | ((conv => arg 1; whnf); first | exact fc_nil | apply fc_cons | exact fc_int | exact fc_bool | exact fc_n | exact fc_ns | exact fc_ptr | exact fc_sl | exact fc_str | exact fc_unk | exact fc_fn | apply fc_s | apply fc_agg | apply fc_ta | apply fc_tup | exact fc_an | apply fc_ac | exact fc_tu | exact fc_nat | exact fc_bo | exact fc_none | apply fc_some | apply fc_pair | apply fc_row | apply fc_ef))); (all_goals exact rfl)) | ((dsimp only [Res.ef, renT, renA, renS, renN, nwN, upN, renRow, List.map_cons, List.map_nil, List.length_cons, List.length_nil]); first | done | exact rfl) | (dsimp only [setAll, List.set_cons_zero, List.set_cons_succ, List.cons_append, List.nil_append]; exact rfl) | exact rfl)) | ((first | apply Br.mk | apply Gd.mk) <;> (intro hb; first | (exact absurd hb (by decide)) | exact Bool.noConfusion (hb.symm.trans (by assumption) : true = false) | exact Bool.noConfusion (hb.symm.trans (by assumption) : false = true) | (simp only [decide_eq_true_eq, decide_eq_false_iff_not, beq_iff_eq, bne_iff_ne, beq_eq_false_iff_ne, bne_eq_false_iff_eq, Bool.not_eq_true', Bool.not_eq_false', Int.not_lt, Int.not_le, ge_iff_le, gt_iff_lt, ne_eq, Classical.not_not] at hb; first | (exfalso; omega) | skip) | skip)))); (all_goals (try (conv => whnf)))
  all_goals (apply Fin.mk (m := [(0, some 0), (1, some _)]); (focus exact rfl); (all_goals ((try (show HlS _ _ [] _)); first | ((repeat' (first | exact SVsM.nil | exact avsm_nil | exact svm_same rfl | exact svm_ptr rfl | exact svm_sl rfl | exact svm_slnil rfl | exact svsm_scal rfl | exact svsm_scal (wsv_scal _) | exact svsm_scal (by assumption) | exact hls_nil | apply SVsM.cons | apply tvm_a | apply tvm_tup | apply avm_agg | apply avm_s | apply avsm_cons | exact trivial | (refine hls_skip rfl ?_) | apply hls_none | apply hls_row | (refine rowmt_mk rfl rfl rfl rfl ?_) | exact rowmt_nil rfl rfl)); done) | exact rfl)))
set_option maxRecDepth 100000 in
theorem store1_ok (xs : List Nat) (n a v : Nat) (hl : xs.length = n) (hn : n < 4294967296) (ha : a < 4294967296) (hld : ld1 n a = true) : Fn Try.prog 67 [.s (.sl 0 0 n), .s (.int .u32 a), .s (.int .i64 1), .s (.int .u32 v)] [⟨false, 1, wsv xs⟩] (· = ⟨.tup [.s (.sl 1 0 n), .s (.bool true)], [], [⟨true, 1, wsv (put1 xs a v)⟩]⟩) := by
  have hw := within1_fn xs n a hn ha
  rw [hld] at hw
  have hln := ld1_len hld
  have hcl := clone_fn xs n hl (by omega)
  have hg := wsv_get xs (a / 4) (by omega)
  have hsf := setField_fn (xs.getD (a / 4) 0) (a % 4 * 8) v (by omega)
  have hset := wsv_set' xs (a / 4) (sfN (xs.getD (a / 4) 0) (a % 4 * 8) v) (by omega)
  have hlw : (wsv xs).length = n := by simp [hl]
  have hsc : allScal (wsv xs) = true := wsv_scal xs
  have hsc2 : allScal (wsv (put1 xs a v)) = true := wsv_scal _
  change setAll _ _ _ = wsv (put1 xs a v) at hset
  generalize sfN (xs.getD (a / 4) 0) (a % 4 * 8) v = V at *
  generalize wsv (put1 xs a v) = X2 at *
  generalize xs.getD (a / 4) 0 = W at *
  generalize wsv xs = X at *
  refine fn_of_vc mixed tys_ok _ _ Try.func67 (by kernel_rfl) rfl Try.ntmps67 (by rw [Try.results67]) rfl ?_; dsimp only [argTm, argHl, Nat.zero_add, Nat.reduceAdd, List.length_nil, List.length_cons]
  (repeat' ((conv => whnf); first | (refine vcall_det (f := 80) hw [⟨0, 0⟩] [(0, ⟨false, 1, X⟩)] rfl ⟨rfl, trivial⟩ ⟨rfl, rowM_ro hsc, trivial⟩ ⟨rfl, noUp⟩ ?_)  |  (refine vcall_det (f := 77) hcl [⟨0, 0⟩] [(0, ⟨false, 1, X⟩)] rfl ⟨rfl, trivial⟩ ⟨rfl, rowM_ro hsc, trivial⟩ ⟨rfl, noUp⟩ ?_)  |  (refine vcall_pure (f := 83) (hsf) rfl ?_)  |  (apply Sd.mk; · omega)  |  (apply Sd.mk; · refine ⟨rfl, rfl, rfl, ?_⟩; show _ ≤ X.length; simp; omega)  |  ((with_reducible apply Vl.mk (α := Nat)); · exact ldi a)  |  ((with_reducible apply Ge.mk (α := SV)); · exact hg)  |  ((with_reducible apply Vl.mk (α := Int)); · with_reducible first | exact at_1 a | exact at_2 a | exact at_3 a)  |  ((with_reducible apply Vl.mk (α := List SV)); · with_reducible exact hset) | (with_reducible apply sd_draw; · kernel_rfl) | (apply Sd.mk; · first | exact rfl | trivial | omega | (repeat' apply And.intro) <;> first | exact rfl | exact Nat.le_of_ble_eq_true rfl | omega | decide) | ((with_reducible apply Vl.mk (α := Int)); · (first | (with_reducible exact bits_keep _ _ _ _) | ((rewrite [tdiv_pos]); (focus (first | exact wi64 (by omega) (by omega) | exact wu32 (by omega) (by omega) | exact wi32 (by omega) (by omega))); omega) | exact tmod_pos (by omega) | exact wi64 (by omega) (by omega) | exact wu32 (by omega) (by omega) | exact wu32' _ | exact wu8 (by omega) (by omega) | exact wu64 (by omega) (by omega) | exact wi32 (by omega) (by omega) | rfl)) | ((with_reducible first | apply Vl.mk (α := Bool) | apply Vl.mk (α := Nat) | apply Vl.mk (α := ByteArray) | apply Ge.mk (α := Row) | apply Ge.mk (α := SV) | apply Ge.mk (α := AV)); · exact rfl) | (refine And.intro rfl ?_) | ((with_reducible first | apply Vl.mk (α := List SV) | apply Vl.mk (α := Ef) | apply Vl.mk (α := TV) | apply Ge.mk (α := List SV) | apply Sg.mk | apply Sk.mk); · (first | exact setAll_eq rfl | exact sg_all _ rfl | exact sk_all _ rfl rfl | ((first | apply sg_fc | apply sk_fc | (apply fc_eq; (conv => arg 1; whnf); apply fc_some) | apply fc_eq); (repeat' (first | exact fc_ren (wsv_scal _) | exact fc_ren (by assumption) | ((conv => arg 1; whnf); first | exact fc_nil | apply fc_cons | exact fc_int | exact fc_bool | exact fc_n | exact fc_ns | exact fc_ptr | exact fc_sl | exact fc_str | exact fc_unk | exact fc_fn | apply fc_s | apply fc_agg | apply fc_ta | apply fc_tup | exact fc_an | apply fc_ac | exact fc_tu | exact fc_nat | exact fc_bo | exact fc_none | apply fc_some | apply fc_pair | apply fc_row | apply fc_ef))); (all_goals exact rfl)) | ((dsimp only [Res.ef, renT, renA, renS, renN, nwN, upN, renRow, List.map_cons, List.map_nil, List.length_cons, List.length_nil]); first | done | exact rfl) | (dsimp only [setAll, List.set_cons_zero, List.set_cons_succ, List.cons_append, List.nil_append]; exact rfl) | exact rfl)) | ((first | apply Br.mk | apply Gd.mk) <;> (intro hb; first | (exact absurd hb (by decide)) | exact Bool.noConfusion (hb.symm.trans (by assumption) : true = false) | exact Bool.noConfusion (hb.symm.trans (by assumption) : false = true) | (simp only [decide_eq_true_eq, decide_eq_false_iff_not, beq_iff_eq, bne_iff_ne, beq_eq_false_iff_ne, bne_eq_false_iff_eq, Bool.not_eq_true', Bool.not_eq_false', Int.not_lt, Int.not_le, ge_iff_le, gt_iff_lt, ne_eq, Classical.not_not] at hb; first | (exfalso; omega) | skip) | skip)))); (all_goals (try (conv => whnf)))
  all_goals (apply Fin.mk (m := [(0, some 0), (1, some _)]); (focus exact rfl); (all_goals ((try (show HlS _ _ [] _)); first | ((repeat' (first | exact SVsM.nil | exact avsm_nil | exact svm_same rfl | exact svm_ptr rfl | exact svm_sl rfl | exact svm_slnil rfl | exact svsm_scal rfl | exact svsm_scal (wsv_scal _) | exact svsm_scal (by assumption) | exact hls_nil | apply SVsM.cons | apply tvm_a | apply tvm_tup | apply avm_agg | apply avm_s | apply avsm_cons | exact trivial | (refine hls_skip rfl ?_) | apply hls_none | apply hls_row | (refine rowmt_mk rfl rfl rfl rfl ?_) | exact rowmt_nil rfl rfl)); done) | exact rfl)))
end Go.Proofs.Ytckdamhnmcmbbaa
