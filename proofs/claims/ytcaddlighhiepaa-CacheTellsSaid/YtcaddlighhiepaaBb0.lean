import Derived.Test.YtcaddlighhiepaaIsaC
import Derived.Test.YtcaddlighhiepaaBlkR
import Derived.Test.YtcaddlighhiepaaAbsS
import Derived.Test.YtcaddlighhiepaaBkA
import Derived.Test.YtcaddlighhiepaaLdA
import Derived.Test.YtcaddlighhiepaaDecA
/- Blocks: from an instruction to its operation. -/
namespace Go.Proofs.Ytcaddlighhiepaa
open Go Go.RowKit
set_option linter.unusedSimpArgs false
set_option linter.unusedVariables false

/-- An operation as the code holds it. -/
def mv (o a b c k n : Int) : List SV := [.int .i64 o, .int .i64 a, .int .i64 b, .int .i64 c, .int .u32 k, .int .i64 n]
def trK (o m : Int) : Int := if o = 24 then m % 4294967296 * 65536 % 4294967296 else if 40 ≤ o ∧ o ≤ 45 ∨ o = 48 then m % 4294967296 * 4 % 4294967296 else m % 4294967296
theorem shl16 (x : Int) : IntKind.u32.wrap (x * 2 ^ min ((16 : Int)).toNat IntKind.u32.bits) = x * 65536 % 4294967296 := by
  rw [show (2 : Int) ^ min ((16 : Int)).toNat IntKind.u32.bits = 65536 from rfl]
  exact wu32' _
set_option maxRecDepth 100000 in
theorem translate_fn (o a b c m : Int) : Fn Try.prog 68 [.agg (iv o a b c m)] [] (· = ⟨.a (.agg (mv o a b c (trK o m) 1)), [], []⟩) := by
  refine fn_of_vc mixed tys_ok _ _ Try.func68 (by kernel_rfl) rfl Try.ntmps68 (by rw [Try.results68]) rfl ?_; dsimp only [argTm, argHl, Nat.zero_add, Nat.reduceAdd, List.length_nil, List.length_cons]
  unfold iv
  (repeat' ((conv => whnf); first | ((with_reducible apply Vl.mk (α := Int)); · first | exact shl16 _ | exact wu32' _) | (with_reducible apply sd_draw; · kernel_rfl) | (apply Sd.mk; · exact aSd) | ((with_reducible apply Vl.mk (α := Int)); · exact aAr) | ((with_reducible first | apply Vl.mk (α := Bool) | apply Vl.mk (α := Nat) | apply Vl.mk (α := ByteArray) | apply Ge.mk (α := Row) | apply Ge.mk (α := SV) | apply Ge.mk (α := AV)); · exact rfl) | (refine And.intro rfl ?_) | ((with_reducible first | apply Vl.mk (α := List SV) | apply Vl.mk (α := Ef) | apply Vl.mk (α := TV) | apply Ge.mk (α := List SV) | apply Sg.mk | apply Sk.mk); · exact aCl) | ((first | apply Br.mk | apply Gd.mk) <;> (intro hb; first | exact aKl hb | (simp only [d1, d2, beq_iff_eq, bne_iff_ne, d3, d4, d5, d6, Int.not_lt, Int.not_le, ge_iff_le, gt_iff_lt, ne_eq, d7] at hb; first | (exfalso; omega) | skip) | skip)))); (all_goals (try (conv => whnf)))
  all_goals
    refine fin_pure rfl ?_
    simp only [mkRes, mv]
    (try subst hb)
    first
      | rfl
      | (congr 5; simp only [trK]; (try rw [if_neg (by omega), if_pos (by omega)]); (try rw [if_neg (by omega), if_neg (by omega)]))
end Go.Proofs.Ytcaddlighhiepaa

/- Blocks: one operation more. -/
namespace Go.Proofs.Ytcaddlighhiepaa
open Go Go.RowKit
set_option linter.unusedSimpArgs false

set_option maxRecDepth 100000 in
theorem join_nil (ad ln o a b c k n : Int) (h0 : -1000000 ≤ ln) (h1 : ln ≤ 1000000) (h2 : -1000000 ≤ n) (h3 : n ≤ 1000000) :
    Fn Try.prog 67 [.agg [.int .u32 ad, .int .i64 ln, .nilsl], .s (.sl 0 0 1)] [⟨true, 6, [.int .i64 o, .int .i64 a, .int .i64 b, .int .i64 c, .int .u32 k, .int .i64 n]⟩] (· = ⟨.a (.agg [.int .u32 ad, .int .i64 (ln + n), .sl 1 0 1]), [(0, none)], [⟨true, 6, [.int .i64 o, .int .i64 a, .int .i64 b, .int .i64 c, .int .u32 k, .int .i64 n]⟩]⟩) := by
  refine fn_of_vc mixed tys_ok _ _ Try.func67 (by kernel_rfl) rfl Try.ntmps67 (by rw [Try.results67]) rfl ?_; dsimp only [argTm, argHl, Nat.zero_add, Nat.reduceAdd, List.length_nil, List.length_cons]
  (repeat' ((conv => whnf); first | (refine Lp.unroll 2 ?_) | (with_reducible apply sd_draw; · kernel_rfl) | (apply Sd.mk; · exact aSd) | ((with_reducible apply Vl.mk (α := Int)); · exact aAr) | ((with_reducible first | apply Vl.mk (α := Bool) | apply Vl.mk (α := Nat) | apply Vl.mk (α := ByteArray) | apply Ge.mk (α := Row) | apply Ge.mk (α := SV) | apply Ge.mk (α := AV)); · exact rfl) | (refine And.intro rfl ?_) | ((with_reducible first | apply Vl.mk (α := List SV) | apply Vl.mk (α := Ef) | apply Vl.mk (α := TV) | apply Ge.mk (α := List SV) | apply Sg.mk | apply Sk.mk); · exact aCl) | ((first | apply Br.mk | apply Gd.mk) <;> (intro hb; first | exact aKl hb | (simp only [d1, d2, beq_iff_eq, bne_iff_ne, d3, d4, d5, d6, Int.not_lt, Int.not_le, ge_iff_le, gt_iff_lt, ne_eq, d7] at hb; first | (exfalso; omega) | skip) | skip)))); (all_goals (try (conv => whnf)))
  all_goals (apply Fin.mk (m := [(0, some 0), (1, some _)]); (focus exact rfl); (all_goals ((try (show HlS _ _ [] _)); first | (exact aFi) | exact rfl)))
set_option maxRecDepth 100000 in
theorem join_sl (ad ln o a b c k n : Int) (cs : List SV) (q : Nat) (hq : q ≤ 1000) (hc : cs.length = q * 6) (hs : allScal cs = true) (h0 : -1000000 ≤ ln) (h1 : ln ≤ 1000000) (h2 : -1000000 ≤ n) (h3 : n ≤ 1000000) :
    Fn Try.prog 67 [.agg [.int .u32 ad, .int .i64 ln, .sl 0 0 q], .s (.sl 1 0 1)] [⟨true, 6, cs⟩, ⟨true, 6, [.int .i64 o, .int .i64 a, .int .i64 b, .int .i64 c, .int .u32 k, .int .i64 n]⟩]
      (· = ⟨.a (.agg [.int .u32 ad, .int .i64 (ln + n), .sl 2 0 (q + 1)]), [(0, none), (1, none)], [⟨true, 6, cs ++ [.int .i64 o, .int .i64 a, .int .i64 b, .int .i64 c, .int .u32 k, .int .i64 n]⟩]⟩) := by
  refine fn_of_vc mixed tys_ok _ _ Try.func67 (by kernel_rfl) rfl Try.ntmps67 (by rw [Try.results67]) rfl ?_; dsimp only [argTm, argHl, Nat.zero_add, Nat.reduceAdd, List.length_nil, List.length_cons]
  have hs2 : allScal (cs ++ [.int .i64 o, .int .i64 a, .int .i64 b, .int .i64 c, .int .u32 k, .int .i64 n]) = true := allScal_append hs rfl
  (repeat' ((conv => whnf); first | (refine Lp.unroll 2 ?_)  |  (apply Sd.mk; · exact ⟨rfl, rfl, hc, by show (q + 1) * 48 ≤ _; omega, by omega⟩) | (with_reducible apply sd_draw; · kernel_rfl) | (apply Sd.mk; · exact aSd) | ((with_reducible apply Vl.mk (α := Int)); · exact aAr) | ((with_reducible first | apply Vl.mk (α := Bool) | apply Vl.mk (α := Nat) | apply Vl.mk (α := ByteArray) | apply Ge.mk (α := Row) | apply Ge.mk (α := SV) | apply Ge.mk (α := AV)); · exact rfl) | (refine And.intro rfl ?_) | ((with_reducible first | apply Vl.mk (α := List SV) | apply Vl.mk (α := Ef) | apply Vl.mk (α := TV) | apply Ge.mk (α := List SV) | apply Sg.mk | apply Sk.mk); · exact aCl) | ((first | apply Br.mk | apply Gd.mk) <;> (intro hb; first | exact aKl hb | (simp only [d1, d2, beq_iff_eq, bne_iff_ne, d3, d4, d5, d6, Int.not_lt, Int.not_le, ge_iff_le, gt_iff_lt, ne_eq, d7] at hb; first | (exfalso; omega) | skip) | skip)))); (all_goals (try (conv => whnf)))
  all_goals (apply Fin.mk (m := [(0, some 0), (1, some 1), (2, some _)]); (focus exact rfl); (all_goals ((try (show HlS _ _ [] _)); first | (exact aFi) | exact rfl)))
end Go.Proofs.Ytcaddlighhiepaa

/- Build of blocks: what both sides build. -/
namespace Go.Proofs.Ytcaddlighhiepaa
open Go Go.RowKit
set_option linter.unusedSimpArgs false
set_option linter.unusedVariables false

/-- The operation of a word. -/
def bM (w : Nat) : Mi := ⟨dOp w, (dA w).toNat, (dB w).toNat, (dC w).toNat, (trK (dOp w) (dM w)).toNat, 1⟩
theorem trK_rng (o m : Int) : 0 ≤ trK o m ∧ trK o m < 4294967296 := by
  unfold trK
  repeat' split
  all_goals omega
theorem d_rng (w : Nat) (hw : w < 4294967296) : 0 ≤ dOp w ∧ dOp w ≤ 255 ∧ 0 ≤ dA w ∧ dA w ≤ 15 ∧ 0 ≤ dB w ∧ dB w ≤ 15 ∧ 0 ≤ dC w ∧ dC w ≤ 65535 ∧ -32768 ≤ dM w ∧ dM w ≤ 65535 := by
  unfold dOp dA dB dC dM sx
  have : dI w < 65536 := by unfold dI; simp only [Nat.reducePow]; omega
  simp only [Nat.reducePow]
  refine ⟨by omega, by omega, by omega, by omega, by omega, by omega, ?_, ?_, ?_, ?_⟩
  all_goals
    repeat' split
    all_goals omega
theorem bM_C (w : Nat) (hw : w < 4294967296) : (bM w).C = mv (dOp w) (dA w) (dB w) (dC w) (trK (dOp w) (dM w)) 1 := by
  have h := d_rng w hw
  have h2 := trK_rng (dOp w) (dM w)
  unfold bM mv
  simp only [Mi.C]
  generalize trK (dOp w) (dM w) = T at *
  rw [Int.toNat_of_nonneg h.2.2.1, Int.toNat_of_nonneg h.2.2.2.2.1, Int.toNat_of_nonneg h.2.2.2.2.2.2.1, Int.toNat_of_nonneg h2.1]
/-- The operations from word q on, at most f. -/
def bl (xs : List Nat) : Nat → Nat → List Mi
  | 0, _ => []
  | f + 1, q => if dOk (xs.getD q 0) = true then (if endsB (dOp (xs.getD q 0)) = true then [bM (xs.getD q 0)] else bM (xs.getD q 0) :: bl xs f (q + 1)) else []
theorem bl_len (xs : List Nat) : ∀ f q, (bl xs f q).length ≤ f
  | 0, _ => Nat.le_refl _
  | f + 1, q => by
    have := bl_len xs f (q + 1)
    unfold bl
    repeat' split
    all_goals simp
    omega
/-- How many operations a block may have. -/
def lmt (a : Nat) (s : Int) : Nat := (min (min s 16) (32 - (a : Int) % 128 / 4)).toNat
def bok (n a : Nat) (s : Int) : Bool := decide (1 ≤ s) && ld4 n a
def blA (n a : Nat) (s : Int) : Nat := if bok n a s = true then a else 0
def blL (xs : List Nat) (n a : Nat) (s : Int) : List Mi := if bok n a s = true then bl xs (lmt a s) (a / 4) else []
def bst2 (LL : List SV) (n a : Nat) (lim : Int) (j : Nat) (R : List SV) : St :=
  ⟨[(0, .a (.s (.sl 0 0 n))), (1, .a (.s (.int .u32 a))), (9, .a (.s (.ptr 1 0))), (10, .a (.s (.int .i64 lim))), (6, .a (.s (.ptr 2 0)))],
   [(0, some ⟨false, 1, LL⟩), (1, some ⟨true, 1, [.int .u32 a, .int .i64 j, .sl 3 0 j]⟩), (2, some ⟨true, 1, [.int .u32 0, .int .i64 0, .nilsl]⟩), (3, some ⟨true, 6, R⟩)], [0]⟩
theorem decode_ok2 (w : Nat) (hw : w < 4294967296) (h : dOk w = true) : Fn Try.prog 66 [.s (.int .u32 w)] [] (· = ⟨.tup [.agg (iv (dOp w) (dA w) (dB w) (dC w) (dM w)), .s (.bool true)], [], []⟩) := by
  have := decode_fn w hw
  rw [h] at this
  exact this
theorem decode_no2 (w : Nat) (hw : w < 4294967296) (h : dOk w = false) : Fn Try.prog 66 [.s (.int .u32 w)] [] (· = ⟨.tup [.agg (iv 0 0 0 0 0), .s (.bool false)], [], []⟩) := by
  have := decode_fn w hw
  rw [h] at this
  exact this
set_option maxHeartbeats 1000000 in
set_option maxRecDepth 100000 in
theorem build_no (xs : List Nat) (n a : Nat) (s : Int) (hl : xs.length = n) (hn : n < 4294967296) (ha : a < 4294967296) (h : bok n a s = false) : Fn Try.prog 44 [.s (.sl 0 0 n), .s (.int .u32 a), .s (.int .i64 s)] [⟨false, 1, wsv xs⟩] (· = ⟨.a (.agg [.int .u32 0, .int .i64 0, .sl 1 0 0]), [], [⟨true, 6, []⟩]⟩) := by
  have hld := load4_fn xs n a hl hn ha
  have h3 : 1 ≤ s → a % 4 = 0 → ld4 n a = false := fun h1 h2 => by
    unfold bok at h; rw [decide_eq_true h1, Bool.true_and] at h; exact h
  clear h
  have hsc := wsv_scal xs
  generalize (if ld4 n a then xs.getD (a / 4) 0 else 0 : Nat) = W at *
  generalize wsv xs = LL at *
  by_cases h1 : 1 ≤ s ∧ a % 4 = 0
  · rw [h3 h1.1 h1.2] at hld
    refine fn_of_vc mixed tys_ok _ _ Try.func44 (by kernel_rfl) rfl Try.ntmps44 (by rw [Try.results44]) rfl ?_; dsimp only [argTm, argHl, Nat.zero_add, Nat.reduceAdd, List.length_nil, List.length_cons]
    (repeat' ((conv => whnf); first | (refine vcall_det (f := 65) hld [⟨0, 0⟩] [(0, ⟨false, 1, LL⟩)] rfl ⟨rfl, trivial⟩ ⟨rfl, rowM_ro hsc, trivial⟩ ⟨rfl, noUp⟩ ?_) | (with_reducible apply sd_draw; · kernel_rfl) | (apply Sd.mk; · exact aSd) | ((with_reducible apply Vl.mk (α := Int)); · exact aAr) | ((with_reducible first | apply Vl.mk (α := Bool) | apply Vl.mk (α := Nat) | apply Vl.mk (α := ByteArray) | apply Ge.mk (α := Row) | apply Ge.mk (α := SV) | apply Ge.mk (α := AV)); · exact rfl) | (refine And.intro rfl ?_) | ((with_reducible first | apply Vl.mk (α := List SV) | apply Vl.mk (α := Ef) | apply Vl.mk (α := TV) | apply Ge.mk (α := List SV) | apply Sg.mk | apply Sk.mk); · exact aCl) | ((first | apply Br.mk | apply Gd.mk) <;> (intro hb; first | exact aKl hb | (simp only [d1, d2, beq_iff_eq, bne_iff_ne, d3, d4, d5, d6, Int.not_lt, Int.not_le, ge_iff_le, gt_iff_lt, ne_eq, d7] at hb; first | (exfalso; omega) | skip) | skip)))); (all_goals (try (conv => whnf)))
    all_goals first | (apply Fin.mk (m := [(0, some 0), (1, none)]); (focus exact rfl); (all_goals ((try (show HlS _ _ [] _)); first | (exact aFi) | exact rfl))) | trace_state
  · refine fn_of_vc mixed tys_ok _ _ Try.func44 (by kernel_rfl) rfl Try.ntmps44 (by rw [Try.results44]) rfl ?_; dsimp only [argTm, argHl, Nat.zero_add, Nat.reduceAdd, List.length_nil, List.length_cons]
    (repeat' ((conv => whnf); first | (with_reducible apply sd_draw; · kernel_rfl) | (apply Sd.mk; · exact aSd) | ((with_reducible apply Vl.mk (α := Int)); · exact aAr) | ((with_reducible first | apply Vl.mk (α := Bool) | apply Vl.mk (α := Nat) | apply Vl.mk (α := ByteArray) | apply Ge.mk (α := Row) | apply Ge.mk (α := SV) | apply Ge.mk (α := AV)); · exact rfl) | (refine And.intro rfl ?_) | ((with_reducible first | apply Vl.mk (α := List SV) | apply Vl.mk (α := Ef) | apply Vl.mk (α := TV) | apply Ge.mk (α := List SV) | apply Sg.mk | apply Sk.mk); · exact aCl) | ((first | apply Br.mk | apply Gd.mk) <;> (intro hb; first | exact aKl hb | (simp only [d1, d2, beq_iff_eq, bne_iff_ne, d3, d4, d5, d6, Int.not_lt, Int.not_le, ge_iff_le, gt_iff_lt, ne_eq, d7] at hb; first | (exfalso; omega) | skip) | skip)))); (all_goals (try (conv => whnf)))
    all_goals first | (apply Fin.mk (m := [(0, some 0), (1, none)]); (focus exact rfl); (all_goals ((try (show HlS _ _ [] _)); first | (exact aFi) | exact rfl))) | trace_state
set_option maxHeartbeats 1000000 in
set_option maxRecDepth 100000 in
theorem build_ok (xs : List Nat) (n a : Nat) (s : Int) (hl : xs.length = n) (hn : n < 4294967296) (ha : a < 4294967296) (hxr : ∀ y ∈ xs, y < 4294967296) (h : bok n a s = true) (l : List Mi) (hL : bl xs (lmt a s) (a / 4) = l) (K : Nat) (hK : l.length = K) : Fn Try.prog 44 [.s (.sl 0 0 n), .s (.int .u32 a), .s (.int .i64 s)] [⟨false, 1, wsv xs⟩] (· = ⟨.a (.agg [.int .u32 a, .int .i64 K, .sl 1 0 K]), [], [⟨true, 6, mcs l⟩]⟩) := by
  have hb2 : 1 ≤ s ∧ ld4 n a = true := by unfold bok at h; simpa using h
  have hal : a % 4 = 0 ∧ a + 4 ≤ mpg n * 128 := by
    have := hb2.2
    unfold ld4 at this
    simpa using this
  have hld := load4_fn xs n a hl hn ha
  rw [hb2.2] at hld
  generalize (if true then xs.getD (a / 4) 0 else 0 : Nat) = W at *
  have hro := room_fn a ha
  have hsc := wsv_scal xs
  obtain ⟨lim, hlim⟩ : ∃ k, lmt a s = k := ⟨_, rfl⟩
  have hl1 : 1 ≤ lim ∧ lim ≤ 16 ∧ (lim : Int) ≤ 32 - (a : Int) % 128 / 4 := by rw [← hlim]; unfold lmt; omega
  have hmin : minL s [16, 32 - (a : Int) % 128 / 4] = (lim : Int) := by
    rw [← hlim]; unfold lmt
    simp only [minL, minS]
    repeat' split
    all_goals omega
  rw [hlim] at hL
  have hload : ∀ j : Nat, j < lim → ld4 n (a + 4 * j) = true ∧ a + 4 * j < 4294967296 ∧ (a + 4 * j) / 4 = a / 4 + j := fun j hj => by
    have hm := mpg_le n
    unfold ld4
    rw [decide_eq_true (by omega), decide_eq_true (by omega)]
    exact ⟨rfl, by omega, by omega⟩
  have hl4 : ∀ j : Nat, j < lim → Fn Try.prog 65 [.s (.sl 0 0 n), .s (.int .u32 (a + 4 * j : Nat)), .s (.int .i64 4)] [⟨false, 1, wsv xs⟩] (· = ⟨.tup [.s (.int .u32 (xs.getD (a / 4 + j) 0 : Nat)), .s (.bool true)], [], []⟩) := fun j hj => by
    obtain ⟨g1, g2, g3⟩ := hload j hj
    have := load4_ok xs n (a + 4 * j) hl hn g2 g1
    rw [g3] at this
    exact this
  have hwl : ∀ j, xs.getD j 0 < 4294967296 := fun j => by
    by_cases hj : j < xs.length
    · rw [List.getD_eq_getElem?_getD, List.getElem?_eq_getElem hj]; exact hxr _ (List.getElem_mem hj)
    · rw [List.getD_eq_getElem?_getD, List.getElem?_eq_none (by omega)]; simp
  generalize wsv xs = LL at *
  refine fn_of_vc mixed tys_ok _ _ Try.func44 (by kernel_rfl) rfl Try.ntmps44 (by rw [Try.results44]) rfl ?_; dsimp only [argTm, argHl, Nat.zero_add, Nat.reduceAdd, List.length_nil, List.length_cons]
  (repeat' ((conv => whnf); first | (refine vcall_det (f := 65) hld [⟨0, 0⟩] [(0, ⟨false, 1, LL⟩)] rfl ⟨rfl, trivial⟩ ⟨rfl, rowM_ro hsc, trivial⟩ ⟨rfl, noUp⟩ ?_)  |  (refine vcall_pure (f := 56) (hro) rfl ?_)  |  ((with_reducible apply Vl.mk (α := Int)); · with_reducible exact hmin) | (with_reducible apply sd_draw; · kernel_rfl) | (apply Sd.mk; · exact aSd) | ((with_reducible apply Vl.mk (α := Int)); · exact aAr) | ((with_reducible first | apply Vl.mk (α := Bool) | apply Vl.mk (α := Nat) | apply Vl.mk (α := ByteArray) | apply Ge.mk (α := Row) | apply Ge.mk (α := SV) | apply Ge.mk (α := AV)); · exact rfl) | (refine And.intro rfl ?_) | ((with_reducible first | apply Vl.mk (α := List SV) | apply Vl.mk (α := Ef) | apply Vl.mk (α := TV) | apply Ge.mk (α := List SV) | apply Sg.mk | apply Sk.mk); · exact aCl) | ((first | apply Br.mk | apply Gd.mk) <;> (intro hb; first | exact aKl hb | (simp only [d1, d2, beq_iff_eq, bne_iff_ne, d3, d4, d5, d6, Int.not_lt, Int.not_le, ge_iff_le, gt_iff_lt, ne_eq, d7] at hb; first | (exfalso; omega) | skip) | skip)))); (all_goals (try (conv => whnf)))
  refine Lp.inv (fun mm σ => ∃ (j : Nat) (R : List Mi), mm + j = lim ∧ R.length = j ∧ R ++ bl xs mm (a / 4 + j) = l ∧ σ = bst2 LL n a lim j (mcs R)) ?_ ?_
  · refine ⟨lim, bst2 LL n a lim 0 [], ?_, 0, [], by omega, rfl, hL, rfl⟩
    apply wk_of (m := [(0, some 0), (1, some 327808), (2, some 65536), (3, none)])
    · repeat' (first | exact tml_nil | apply tml_cons)
      all_goals first | exact tvm_a (avm_s (svm_same rfl)) | exact tvm_a (avm_s (svm_ptr rfl)) | exact tvm_a (avm_s (svm_sl rfl))
    · show HlS _ _ [] _
      refine hls_row (rowmt_mk rfl rfl rfl rfl (svsm_scal hsc)) ?_
      refine hls_row (rowmt_mk rfl rfl rfl rfl (.cons (svm_same rfl) (.cons (svm_same rfl) (.cons (svm_slnil rfl) .nil)))) ?_
      refine hls_row (rowmt_mk rfl rfl rfl rfl (svsm_scal rfl)) ?_
      refine hls_row (rowmt_nil rfl rfl) ?_
      exact hls_nil
    · rfl
  · rintro mm σ ⟨j, R, hmj, hRj, hinv, rfl⟩
    unfold bst2
    clear hld hro hmin
    by_cases hj : j < lim
    · have hlj := hl4 j hj
      have g := hload j hj
      have hw := hwl (a / 4 + j)
      have hst : bl xs mm (a / 4 + j) = if dOk (xs.getD (a / 4 + j) 0) = true then (if endsB (dOp (xs.getD (a / 4 + j) 0)) = true then [bM (xs.getD (a / 4 + j) 0)] else bM (xs.getD (a / 4 + j) 0) :: bl xs (mm - 1) (a / 4 + j + 1)) else [] := by
        obtain ⟨f, rfl⟩ : ∃ f, mm = f + 1 := ⟨mm - 1, by omega⟩
        rfl
      have hC := bM_C (xs.getD (a / 4 + j) 0) hw
      have e3 : IntKind.u32.wrap ((a : Int) + 4 * (j : Int)) = ((a + 4 * j : Nat) : Int) := by rw [wu32 (by omega) (by omega)]; omega
      rw [hst] at hinv
      clear hl4 hload hwl hst h
      generalize xs.getD (a / 4 + j) 0 = w at *
      have hRs := mcs_scal R
      have hRl := mcs_len R
      cases hd : dOk w with
      | false =>
        have cde := decode_no2 w hw hd
        have e4 := e3
        rw [hd, if_neg (by simp), List.append_nil] at hinv
        subst hinv
        have hKj : K = j := by omega
        subst hKj
        generalize mcs R = RR at *
        (repeat' ((conv => whnf); first | ((with_reducible apply Vl.mk (α := Int)); · with_reducible first | exact e3 | exact e4)  |  (refine vcall_det (f := 65) hlj [⟨0, 0⟩] [(0, ⟨false, 1, LL⟩)] rfl ⟨rfl, trivial⟩ ⟨rfl, rowM_ro hsc, trivial⟩ ⟨rfl, noUp⟩ ?_)  |  (refine vcall_pure (f := 66) (cde) rfl ?_) | (with_reducible apply sd_draw; · kernel_rfl) | (apply Sd.mk; · exact aSd) | ((with_reducible apply Vl.mk (α := Int)); · exact aAr) | ((with_reducible first | apply Vl.mk (α := Bool) | apply Vl.mk (α := Nat) | apply Vl.mk (α := ByteArray) | apply Ge.mk (α := Row) | apply Ge.mk (α := SV) | apply Ge.mk (α := AV)); · exact rfl) | (refine And.intro rfl ?_) | ((with_reducible first | apply Vl.mk (α := List SV) | apply Vl.mk (α := Ef) | apply Vl.mk (α := TV) | apply Ge.mk (α := List SV) | apply Sg.mk | apply Sk.mk); · exact aCl) | ((first | apply Br.mk | apply Gd.mk) <;> (intro hb; first | exact aKl hb | (simp only [d1, d2, beq_iff_eq, bne_iff_ne, d3, d4, d5, d6, Int.not_lt, Int.not_le, ge_iff_le, gt_iff_lt, ne_eq, d7] at hb; first | (exfalso; omega) | skip) | skip)))); (all_goals (try (conv => whnf)))
        all_goals first | (apply Fin.mk (m := [(0, some 0), (1, some 3)]); (focus exact rfl); (all_goals ((try (show HlS _ _ [] _)); first | (exact aFi) | exact rfl))) | trace_state
      | true =>
        have cde := decode_ok2 w hw hd
        have e4 := e3
        rw [hd, if_pos rfl] at hinv
        have ctr := translate_fn (dOp w) (dA w) (dB w) (dC w) (dM w)
        have cen := ends_fn (dOp w)
        have hjo := join_sl a j (dOp w) (dA w) (dB w) (dC w) (trK (dOp w) (dM w)) 1 (mcs R) j (by omega) (by rw [hRl, hRj]) hRs (by omega) (by omega) (by omega) (by omega)
        have happ : mcs R ++ [.int .i64 (dOp w), .int .i64 (dA w), .int .i64 (dB w), .int .i64 (dC w), .int .u32 (trK (dOp w) (dM w)), .int .i64 1] = mcs (R ++ [bM w]) := by
          rw [mcs_app]
          show _ = mcs R ++ ((bM w).C ++ [])
          rw [hC, List.append_nil]; rfl
        rw [happ, show (j : Int) + 1 = ((j + 1 : Nat) : Int) by omega] at hjo
        have hRs2 := mcs_scal (R ++ [bM w])
        clear happ hC
        generalize bM w = M at *
        generalize trK (dOp w) (dM w) = T at *
        generalize dOp w = o at *
        generalize dA w = A at *
        generalize dB w = B at *
        generalize dC w = C at *
        generalize dM w = I at *
        cases hE : endsB o with
        | true =>
          rw [hE] at cen
          rw [hE, if_pos rfl] at hinv
          rw [hinv] at hjo hRs2
          have hKj : K = j + 1 := by rw [← hK, ← hinv]; simp; omega
          subst hKj
          generalize mcs R = RR at *
          generalize mcs l = LM at *
          (repeat' ((conv => whnf); first | ((with_reducible apply Vl.mk (α := Int)); · with_reducible first | exact e3 | exact e4)  |  (refine vcall_det (f := 65) hlj [⟨0, 0⟩] [(0, ⟨false, 1, LL⟩)] rfl ⟨rfl, trivial⟩ ⟨rfl, rowM_ro hsc, trivial⟩ ⟨rfl, noUp⟩ ?_)  |  (refine vcall_pure (f := 66) (cde) rfl ?_)  |  (refine vcall_pure (f := 68) (ctr) rfl ?_)  |  (refine vcall_pure (f := 59) (cen) rfl ?_)  |  (refine vcall_det (f := 67) hjo [⟨3, 0⟩, ⟨_, 0⟩] [(3, ⟨true, 6, RR⟩), (_, ⟨true, 6, _⟩)] rfl ⟨rfl, rfl, trivial⟩ ⟨rfl, rowM_hand hRs rfl, rfl, rowM_hand rfl rfl, trivial⟩ ⟨rfl, by simp⟩ ?_) | (with_reducible apply sd_draw; · kernel_rfl) | (apply Sd.mk; · exact aSd) | ((with_reducible apply Vl.mk (α := Int)); · exact aAr) | ((with_reducible first | apply Vl.mk (α := Bool) | apply Vl.mk (α := Nat) | apply Vl.mk (α := ByteArray) | apply Ge.mk (α := Row) | apply Ge.mk (α := SV) | apply Ge.mk (α := AV)); · exact rfl) | (refine And.intro rfl ?_) | ((with_reducible first | apply Vl.mk (α := List SV) | apply Vl.mk (α := Ef) | apply Vl.mk (α := TV) | apply Ge.mk (α := List SV) | apply Sg.mk | apply Sk.mk); · exact aCl) | ((first | apply Br.mk | apply Gd.mk) <;> (intro hb; first | exact aKl hb | (simp only [d1, d2, beq_iff_eq, bne_iff_ne, d3, d4, d5, d6, Int.not_lt, Int.not_le, ge_iff_le, gt_iff_lt, ne_eq, d7] at hb; first | (exfalso; omega) | skip) | skip)))); (all_goals (try (conv => whnf)))
          all_goals first | (apply Fin.mk (m := [(0, some 0), (1, some _)]); (focus exact rfl); (all_goals ((try (show HlS _ _ [] _)); first | (exact aFi) | exact rfl))) | trace_state
        | false =>
          rw [hE] at cen
          rw [hE, if_neg (by simp)] at hinv
          have hnx : (R ++ [M]) ++ bl xs (mm - 1) (a / 4 + (j + 1)) = l := by rw [← hinv, List.append_assoc]; rfl
          generalize hR2 : R ++ [M] = R2 at *
          have hR2l : R2.length = j + 1 := by rw [← hR2]; simp; omega
          generalize mcs R = RR at *
          generalize hRM : mcs R2 = RM at *
          (repeat' ((conv => whnf); first | ((with_reducible apply Vl.mk (α := Int)); · with_reducible first | exact e3 | exact e4)  |  (refine vcall_det (f := 65) hlj [⟨0, 0⟩] [(0, ⟨false, 1, LL⟩)] rfl ⟨rfl, trivial⟩ ⟨rfl, rowM_ro hsc, trivial⟩ ⟨rfl, noUp⟩ ?_)  |  (refine vcall_pure (f := 66) (cde) rfl ?_)  |  (refine vcall_pure (f := 68) (ctr) rfl ?_)  |  (refine vcall_pure (f := 59) (cen) rfl ?_)  |  (refine vcall_det (f := 67) hjo [⟨3, 0⟩, ⟨_, 0⟩] [(3, ⟨true, 6, RR⟩), (_, ⟨true, 6, _⟩)] rfl ⟨rfl, rfl, trivial⟩ ⟨rfl, rowM_hand hRs rfl, rfl, rowM_hand rfl rfl, trivial⟩ ⟨rfl, by simp⟩ ?_) | (with_reducible apply sd_draw; · kernel_rfl) | (apply Sd.mk; · exact aSd) | ((with_reducible apply Vl.mk (α := Int)); · exact aAr) | ((with_reducible first | apply Vl.mk (α := Bool) | apply Vl.mk (α := Nat) | apply Vl.mk (α := ByteArray) | apply Ge.mk (α := Row) | apply Ge.mk (α := SV) | apply Ge.mk (α := AV)); · exact rfl) | (refine And.intro rfl ?_) | ((with_reducible first | apply Vl.mk (α := List SV) | apply Vl.mk (α := Ef) | apply Vl.mk (α := TV) | apply Ge.mk (α := List SV) | apply Sg.mk | apply Sk.mk); · exact aCl) | ((first | apply Br.mk | apply Gd.mk) <;> (intro hb; first | exact aKl hb | (simp only [d1, d2, beq_iff_eq, bne_iff_ne, d3, d4, d5, d6, Int.not_lt, Int.not_le, ge_iff_le, gt_iff_lt, ne_eq, d7] at hb; first | (exfalso; omega) | skip) | skip)))); (all_goals (try (conv => whnf)))
          all_goals first
            | (refine ⟨mm - 1, bst2 LL n a lim (j + 1) RM, by omega, ?_, j + 1, R2, by omega, hR2l, hnx, by rw [hRM]; rfl⟩
               apply wk_of (m := [(0, some 0), (1, some 1), (2, some 2), (3, some 327936)])
               · repeat' (first | exact tml_nil | apply tml_cons)
                 all_goals first | exact tvm_a (avm_s (svm_same rfl)) | exact tvm_a (avm_s (svm_ptr rfl)) | exact tvm_a (avm_s (svm_sl rfl))
               · show HlS _ _ [] _
                 refine hls_row (rowmt_mk rfl rfl rfl rfl (svsm_scal hsc)) ?_
                 refine hls_row (rowmt_mk rfl rfl rfl rfl (.cons (svm_same rfl) (.cons (svm_same rfl) (.cons (svm_sl rfl) .nil)))) ?_
                 refine hls_row (rowmt_mk rfl rfl rfl rfl (svsm_scal rfl)) ?_
                 refine hls_row (rowmt_mk rfl rfl rfl rfl (svsm_scal hRs2)) ?_
                 exact hls_nil
               · rfl
               )
            | trace_state
    · have hm0 : mm = 0 := by omega
      subst hm0
      have hinv2 : R = l := by rw [← hinv]; show R = R ++ []; rw [List.append_nil]
      subst hinv2
      have hKj : K = j := by omega
      subst hKj
      have hRs := mcs_scal R
      generalize mcs R = RR at *
      (repeat' ((conv => whnf); first | (with_reducible apply sd_draw; · kernel_rfl) | (apply Sd.mk; · exact aSd) | ((with_reducible apply Vl.mk (α := Int)); · exact aAr) | ((with_reducible first | apply Vl.mk (α := Bool) | apply Vl.mk (α := Nat) | apply Vl.mk (α := ByteArray) | apply Ge.mk (α := Row) | apply Ge.mk (α := SV) | apply Ge.mk (α := AV)); · exact rfl) | (refine And.intro rfl ?_) | ((with_reducible first | apply Vl.mk (α := List SV) | apply Vl.mk (α := Ef) | apply Vl.mk (α := TV) | apply Ge.mk (α := List SV) | apply Sg.mk | apply Sk.mk); · exact aCl) | ((first | apply Br.mk | apply Gd.mk) <;> (intro hb; first | exact aKl hb | (simp only [d1, d2, beq_iff_eq, bne_iff_ne, d3, d4, d5, d6, Int.not_lt, Int.not_le, ge_iff_le, gt_iff_lt, ne_eq, d7] at hb; first | (exfalso; omega) | skip) | skip)))); (all_goals (try (conv => whnf)))
      all_goals first | (apply Fin.mk (m := [(0, some 0), (1, some 3)]); (focus exact rfl); (all_goals ((try (show HlS _ _ [] _)); first | (exact aFi) | exact rfl))) | trace_state
end Go.Proofs.Ytcaddlighhiepaa

/- The reference's Build. Printed by mkbldc.py. -/
namespace Go.Proofs.Ytcaddlighhiepaa
open Go Go.RowKit
set_option linter.unusedSimpArgs false
set_option linter.unusedVariables false

def branC (o : Int) : Bool := decide (40 ≤ o ∧ o ≤ 45)
set_option maxRecDepth 100000 in
theorem rbranchC_fn (o : Int) : Fn Try.prog 30 [.s (.int .i64 o)] [] (· = ⟨.a (.s (.bool (branC o))), [], []⟩) := by
  unfold branC
  refine fn_of_vc mixed tys_ok _ _ Try.func30 (by kernel_rfl) rfl Try.ntmps30 (by rw [Try.results30]) rfl ?_; dsimp only [argTm, argHl, Nat.zero_add, Nat.reduceAdd, List.length_nil, List.length_cons]
  (repeat' ((conv => whnf); first | (with_reducible apply sd_draw; · kernel_rfl) | (apply Sd.mk; · exact aSd) | ((with_reducible apply Vl.mk (α := Int)); · exact aAr) | ((with_reducible first | apply Vl.mk (α := Bool) | apply Vl.mk (α := Nat) | apply Vl.mk (α := ByteArray) | apply Ge.mk (α := Row) | apply Ge.mk (α := SV) | apply Ge.mk (α := AV)); · exact rfl) | (refine And.intro rfl ?_) | ((with_reducible first | apply Vl.mk (α := List SV) | apply Vl.mk (α := Ef) | apply Vl.mk (α := TV) | apply Ge.mk (α := List SV) | apply Sg.mk | apply Sk.mk); · exact aCl) | ((first | apply Br.mk | apply Gd.mk) <;> (intro hb; first | exact aKl hb | (simp only [d1, d2, beq_iff_eq, bne_iff_ne, d3, d4, d5, d6, Int.not_lt, Int.not_le, ge_iff_le, gt_iff_lt, ne_eq, d7] at hb; first | (exfalso; omega) | skip) | skip)))); (all_goals (try (conv => whnf)))
  all_goals (refine fin_pure rfl ?_; simp only [mkRes]; congr 3; first | (refine (decide_eq_false ?_).symm; omega) | (rw [Bool.eq_iff_iff]; simp only [decide_eq_true_eq]; omega))
set_option maxRecDepth 100000 in
theorem rpagesC_fn (xs : List Nat) (n : Nat) (hn : n < 4294967296) : Fn Try.prog 52 [.s (.sl 0 0 n)] [⟨false, 1, wsv xs⟩] (· = ⟨.a (.s (.int .i64 (mpg n : Nat))), [], []⟩) := by
  refine fn_of_vc mixed tys_ok _ _ Try.func52 (by kernel_rfl) rfl Try.ntmps52 (by rw [Try.results52]) rfl ?_; dsimp only [argTm, argHl, Nat.zero_add, Nat.reduceAdd, List.length_nil, List.length_cons]
  (repeat' ((conv => whnf); first | (with_reducible apply sd_draw; · kernel_rfl) | (apply Sd.mk; · exact aSd) | ((with_reducible apply Vl.mk (α := Int)); · exact aAr) | ((with_reducible first | apply Vl.mk (α := Bool) | apply Vl.mk (α := Nat) | apply Vl.mk (α := ByteArray) | apply Ge.mk (α := Row) | apply Ge.mk (α := SV) | apply Ge.mk (α := AV)); · exact rfl) | (refine And.intro rfl ?_) | ((with_reducible first | apply Vl.mk (α := List SV) | apply Vl.mk (α := Ef) | apply Vl.mk (α := TV) | apply Ge.mk (α := List SV) | apply Sg.mk | apply Sk.mk); · exact aCl) | ((first | apply Br.mk | apply Gd.mk) <;> (intro hb; first | exact aKl hb | (simp only [d1, d2, beq_iff_eq, bne_iff_ne, d3, d4, d5, d6, Int.not_lt, Int.not_le, ge_iff_le, gt_iff_lt, ne_eq, d7] at hb; first | (exfalso; omega) | skip) | skip)))); (all_goals (try (conv => whnf)))
  all_goals (refine fin_ro1 rfl (wsv_scal _) rfl ?_; simp only [mkRes]; congr 3; unfold mpg; split <;> omega)
set_option maxRecDepth 100000 in
theorem rwithinC_fn (xs : List Nat) (n a : Nat) (hn : n < 4294967296) (ha : a < 4294967296) : Fn Try.prog 28 [.s (.sl 0 0 n), .s (.int .u32 a), .s (.int .i64 4)] [⟨false, 1, wsv xs⟩] (· = ⟨.a (.s (.bool (ld4 n a))), [], []⟩) := by
  have hm := mpg_le n
  have hp := rpagesC_fn xs n hn
  unfold ld4
  generalize mpg n = P at *
  refine fn_of_vc mixed tys_ok _ _ Try.func28 (by kernel_rfl) rfl Try.ntmps28 (by rw [Try.results28]) rfl ?_; dsimp only [argTm, argHl, Nat.zero_add, Nat.reduceAdd, List.length_nil, List.length_cons]
  (repeat' ((conv => whnf); first | (refine vcall_det (f := 52) (hp) [⟨0, 0⟩] [(0, ⟨false, 1, wsv xs⟩)] (by first | exact rfl | simp [renA, renS, renN]) ⟨rfl, trivial⟩ (⟨rfl, rowM_ro (wsv_scal _), trivial⟩) ⟨rfl, noUp⟩ ?_) | (with_reducible apply sd_draw; · kernel_rfl) | (apply Sd.mk; · exact aSd) | ((with_reducible apply Vl.mk (α := Int)); · exact aAr) | ((with_reducible first | apply Vl.mk (α := Bool) | apply Vl.mk (α := Nat) | apply Vl.mk (α := ByteArray) | apply Ge.mk (α := Row) | apply Ge.mk (α := SV) | apply Ge.mk (α := AV)); · exact rfl) | (refine And.intro rfl ?_) | ((with_reducible first | apply Vl.mk (α := List SV) | apply Vl.mk (α := Ef) | apply Vl.mk (α := TV) | apply Ge.mk (α := List SV) | apply Sg.mk | apply Sk.mk); · exact aCl) | ((first | apply Br.mk | apply Gd.mk) <;> (intro hb; first | exact aKl hb | (simp only [d1, d2, beq_iff_eq, bne_iff_ne, d3, d4, d5, d6, Int.not_lt, Int.not_le, ge_iff_le, gt_iff_lt, ne_eq, d7] at hb; first | (exfalso; omega) | skip) | skip)))); (all_goals (try (conv => whnf)))
  all_goals
    refine fin_ro1 rfl (wsv_scal _) rfl ?_
    simp only [mkRes]
    congr 3
    refine Eq.symm ?_
    first
      | (rw [decide_eq_false (by omega)]; rfl)
      | (rw [decide_eq_true (by omega), Bool.true_and, Bool.eq_iff_iff, decide_eq_true_eq, decide_eq_true_eq]; omega)
def rbst (LL : List SV) (n a : Nat) (s : Int) (j : Nat) (R : List SV) : St :=
  ⟨[(0, .a (.s (.sl 0 0 n))), (2, .a (.s (.int .i64 s))), (7, .a (.s (.ptr 1 0))), (8, .a (.s (.int .u32 (a + 4 * j : Nat)))), (6, .a (.s (.ptr 2 0)))],
   [(0, some ⟨false, 1, LL⟩), (1, some ⟨true, 1, [.int .u32 a, .int .i64 j, .sl 3 0 j]⟩), (2, some ⟨true, 1, [.int .u32 0, .int .i64 0, .nilsl]⟩), (3, some ⟨true, 6, R⟩)], [0]⟩
set_option maxHeartbeats 1000000 in
set_option maxRecDepth 100000 in
theorem rbuild_no (xs : List Nat) (n a : Nat) (s : Int) (hl : xs.length = n) (hn : n < 4294967296) (ha : a < 4294967296) (h : bok n a s = false) : Fn Try.prog 10 [.s (.sl 0 0 n), .s (.int .u32 a), .s (.int .i64 s)] [⟨false, 1, wsv xs⟩] (· = ⟨.a (.agg [.int .u32 0, .int .i64 0, .sl 1 0 0]), [], [⟨true, 6, []⟩]⟩) := by
  have hld := rwithinC_fn xs n a hn ha
  have h3 : 1 ≤ s → ld4 n a = false := fun h1 => by
    unfold bok at h; rw [decide_eq_true h1, Bool.true_and] at h; exact h
  clear h
  have hsc := wsv_scal xs
  generalize wsv xs = LL at *
  by_cases h1 : 1 ≤ s
  · rw [h3 h1] at hld
    refine fn_of_vc mixed tys_ok _ _ Try.func10 (by kernel_rfl) rfl Try.ntmps10 (by rw [Try.results10]) rfl ?_; dsimp only [argTm, argHl, Nat.zero_add, Nat.reduceAdd, List.length_nil, List.length_cons]
    (repeat' ((conv => whnf); first | (refine vcall_det (f := 28) hld [⟨0, 0⟩] [(0, ⟨false, 1, LL⟩)] rfl ⟨rfl, trivial⟩ ⟨rfl, rowM_ro hsc, trivial⟩ ⟨rfl, noUp⟩ ?_) | (with_reducible apply sd_draw; · kernel_rfl) | (apply Sd.mk; · exact aSd) | ((with_reducible apply Vl.mk (α := Int)); · exact aAr) | ((with_reducible first | apply Vl.mk (α := Bool) | apply Vl.mk (α := Nat) | apply Vl.mk (α := ByteArray) | apply Ge.mk (α := Row) | apply Ge.mk (α := SV) | apply Ge.mk (α := AV)); · exact rfl) | (refine And.intro rfl ?_) | ((with_reducible first | apply Vl.mk (α := List SV) | apply Vl.mk (α := Ef) | apply Vl.mk (α := TV) | apply Ge.mk (α := List SV) | apply Sg.mk | apply Sk.mk); · exact aCl) | ((first | apply Br.mk | apply Gd.mk) <;> (intro hb; first | exact aKl hb | (simp only [d1, d2, beq_iff_eq, bne_iff_ne, d3, d4, d5, d6, Int.not_lt, Int.not_le, ge_iff_le, gt_iff_lt, ne_eq, d7] at hb; first | (exfalso; omega) | skip) | skip)))); (all_goals (try (conv => whnf)))
    all_goals first | (apply Fin.mk (m := [(0, some 0), (1, none)]); (focus exact rfl); (all_goals ((try (show HlS _ _ [] _)); first | (exact aFi) | exact rfl))) | trace_state
  · clear h3
    generalize ld4 n a = Q at *
    refine fn_of_vc mixed tys_ok _ _ Try.func10 (by kernel_rfl) rfl Try.ntmps10 (by rw [Try.results10]) rfl ?_; dsimp only [argTm, argHl, Nat.zero_add, Nat.reduceAdd, List.length_nil, List.length_cons]
    (repeat' ((conv => whnf); first | (refine vcall_det (f := 28) hld [⟨0, 0⟩] [(0, ⟨false, 1, LL⟩)] rfl ⟨rfl, trivial⟩ ⟨rfl, rowM_ro hsc, trivial⟩ ⟨rfl, noUp⟩ ?_) | (with_reducible apply sd_draw; · kernel_rfl) | (apply Sd.mk; · exact aSd) | ((with_reducible apply Vl.mk (α := Int)); · exact aAr) | ((with_reducible first | apply Vl.mk (α := Bool) | apply Vl.mk (α := Nat) | apply Vl.mk (α := ByteArray) | apply Ge.mk (α := Row) | apply Ge.mk (α := SV) | apply Ge.mk (α := AV)); · exact rfl) | (refine And.intro rfl ?_) | ((with_reducible first | apply Vl.mk (α := List SV) | apply Vl.mk (α := Ef) | apply Vl.mk (α := TV) | apply Ge.mk (α := List SV) | apply Sg.mk | apply Sk.mk); · exact aCl) | ((first | apply Br.mk | apply Gd.mk) <;> (intro hb; first | exact aKl hb | (simp only [d1, d2, beq_iff_eq, bne_iff_ne, d3, d4, d5, d6, Int.not_lt, Int.not_le, ge_iff_le, gt_iff_lt, ne_eq, d7] at hb; first | (exfalso; omega) | skip) | skip)))); (all_goals (try (conv => whnf)))
    all_goals first | (apply Fin.mk (m := [(0, some 0), (1, none)]); (focus exact rfl); (all_goals ((try (show HlS _ _ [] _)); first | (exact aFi) | exact rfl))) | trace_state
theorem trK24 (m : Int) : trK 24 m = m % 4294967296 * 65536 % 4294967296 := by unfold trK; rw [if_pos rfl]
theorem trK4 (o m : Int) (h : 40 ≤ o ∧ o ≤ 45 ∨ o = 48) : trK o m = m % 4294967296 * 4 % 4294967296 := by unfold trK; rw [if_neg (by omega), if_pos h]
theorem trK0 (o m : Int) (h : o ≠ 24) (h2 : ¬ (40 ≤ o ∧ o ≤ 45 ∨ o = 48)) : trK o m = m % 4294967296 := by unfold trK; rw [if_neg h, if_neg h2]
set_option maxHeartbeats 1000000 in
set_option maxRecDepth 100000 in
theorem rbuild_ok (xs : List Nat) (n a : Nat) (s : Int) (hl : xs.length = n) (hn : n < 4294967296) (ha : a < 4294967296) (hxr : ∀ y ∈ xs, y < 4294967296) (h : bok n a s = true) (l : List Mi) (hL : bl xs (lmt a s) (a / 4) = l) (K : Nat) (hK : l.length = K) : Fn Try.prog 10 [.s (.sl 0 0 n), .s (.int .u32 a), .s (.int .i64 s)] [⟨false, 1, wsv xs⟩] (· = ⟨.a (.agg [.int .u32 a, .int .i64 K, .sl 1 0 K]), [], [⟨true, 6, mcs l⟩]⟩) := by
  have hb2 : 1 ≤ s ∧ ld4 n a = true := by unfold bok at h; simpa using h
  have hal : a % 4 = 0 ∧ a + 4 ≤ mpg n * 128 := by
    have := hb2.2
    unfold ld4 at this
    simpa using this
  have hld := rwithinC_fn xs n a hn ha
  rw [hb2.2] at hld
  have hsc := wsv_scal xs
  have hm32 := mpg_le n
  have hmn : mpg n * 32 ≤ n := by unfold mpg; split <;> omega
  obtain ⟨lim, hlim⟩ : ∃ k, lmt a s = k := ⟨_, rfl⟩
  have hl1 : 1 ≤ lim ∧ lim ≤ 16 ∧ (lim : Int) ≤ 32 - (a : Int) % 128 / 4 ∧ (lim : Int) ≤ s ∧ ((lim : Int) = s ∨ lim = 16 ∨ (lim : Int) = 32 - (a : Int) % 128 / 4) := by rw [← hlim]; unfold lmt; omega
  rw [hlim] at hL
  have hwl : ∀ j, xs.getD j 0 < 4294967296 := fun j => by
    by_cases hj : j < xs.length
    · rw [List.getD_eq_getElem?_getD, List.getElem?_eq_getElem hj]; exact hxr _ (List.getElem_mem hj)
    · rw [List.getD_eq_getElem?_getD, List.getElem?_eq_none (by omega)]; simp
  have hgl : ∀ j : Nat, j < lim → (wsv xs)[a / 4 + j]? = some (.int .u32 (xs.getD (a / 4 + j) 0 : Nat)) := fun j hj => wsv_get xs _ (by omega)
  generalize hPn : mpg n = P at *
  generalize wsv xs = LL at *
  refine fn_of_vc mixed tys_ok _ _ Try.func10 (by kernel_rfl) rfl Try.ntmps10 (by rw [Try.results10]) rfl ?_; dsimp only [argTm, argHl, Nat.zero_add, Nat.reduceAdd, List.length_nil, List.length_cons]
  (repeat' ((conv => whnf); first | (refine vcall_det (f := 28) hld [⟨0, 0⟩] [(0, ⟨false, 1, LL⟩)] rfl ⟨rfl, trivial⟩ ⟨rfl, rowM_ro hsc, trivial⟩ ⟨rfl, noUp⟩ ?_) | (with_reducible apply sd_draw; · kernel_rfl) | (apply Sd.mk; · exact aSd) | ((with_reducible apply Vl.mk (α := Int)); · exact aAr) | ((with_reducible first | apply Vl.mk (α := Bool) | apply Vl.mk (α := Nat) | apply Vl.mk (α := ByteArray) | apply Ge.mk (α := Row) | apply Ge.mk (α := SV) | apply Ge.mk (α := AV)); · exact rfl) | (refine And.intro rfl ?_) | ((with_reducible first | apply Vl.mk (α := List SV) | apply Vl.mk (α := Ef) | apply Vl.mk (α := TV) | apply Ge.mk (α := List SV) | apply Sg.mk | apply Sk.mk); · exact aCl) | ((first | apply Br.mk | apply Gd.mk) <;> (intro hb; first | exact aKl hb | (simp only [d1, d2, beq_iff_eq, bne_iff_ne, d3, d4, d5, d6, Int.not_lt, Int.not_le, ge_iff_le, gt_iff_lt, ne_eq, d7] at hb; first | (exfalso; omega) | skip) | skip)))); (all_goals (try (conv => whnf)))
  refine Lp.inv (fun mm σ => ∃ (j : Nat) (R : List Mi), mm + j = lim ∧ (j : Int) < 32 - (a : Int) % 128 / 4 ∧ R.length = j ∧ R ++ bl xs mm (a / 4 + j) = l ∧ σ = rbst LL n a s j (mcs R)) ?_ ?_
  · refine ⟨lim, rbst LL n a s 0 [], ?_, 0, [], by omega, by omega, rfl, hL, rfl⟩
    apply wk_of (m := [(0, some 0), (1, some 196736), (2, some 65536), (3, none)])
    · repeat' (first | exact tml_nil | apply tml_cons)
      all_goals first | exact tvm_a (avm_s (svm_same rfl)) | exact tvm_a (avm_s (svm_ptr rfl)) | exact tvm_a (avm_s (svm_sl rfl))
    · show HlS _ _ [] _
      refine hls_row (rowmt_mk rfl rfl rfl rfl (svsm_scal hsc)) ?_
      refine hls_row (rowmt_mk rfl rfl rfl rfl (.cons (svm_same rfl) (.cons (svm_same rfl) (.cons (svm_slnil rfl) .nil)))) ?_
      refine hls_row (rowmt_mk rfl rfl rfl rfl (svsm_scal rfl)) ?_
      refine hls_row (rowmt_nil rfl rfl) ?_
      exact hls_nil
    · rfl
  · rintro mm σ ⟨j, R, hmj, hjr, hRj, hinv, rfl⟩
    unfold rbst
    clear hld
    by_cases hj : j < lim
    · have hw := hwl (a / 4 + j)
      have hst : bl xs mm (a / 4 + j) = if dOk (xs.getD (a / 4 + j) 0) = true then (if endsB (dOp (xs.getD (a / 4 + j) 0)) = true then [bM (xs.getD (a / 4 + j) 0)] else bM (xs.getD (a / 4 + j) 0) :: bl xs (mm - 1) (a / 4 + j + 1)) else [] := by
        obtain ⟨f, rfl⟩ : ∃ f, mm = f + 1 := ⟨mm - 1, by omega⟩
        rfl
      have hlast : mm = 1 → bl xs (mm - 1) (a / 4 + j + 1) = [] := fun h => by rw [h]; rfl
      have hC := bM_C (xs.getD (a / 4 + j) 0) hw
      have hge : LL[(a + 4 * j) / 4]? = some (.int .u32 (xs.getD (a / 4 + j) 0 : Nat)) := by
        rw [show (a + 4 * j) / 4 = a / 4 + j by omega]; exact hgl j hj
      have x1 : 0 + (((a + 4 * j : Nat) : Int) / 4).toNat * ty24.size = (a + 4 * j) / 4 := by show 0 + (((a + 4 * j : Nat) : Int) / 4).toNat * 1 = _; omega
      have e4 : IntKind.u32.wrap (((a + 4 * j : Nat) : Int) + 4) = ((a + 4 * (j + 1) : Nat) : Int) := by rw [wu32 (by omega) (by omega)]; omega
      have e5 : IntKind.i64.wrap ((j : Int) + 1) = ((j + 1 : Nat) : Int) := by rw [wi64 (by omega) (by omega)]; omega
      have hpe : ((a + 4 * (j + 1) : Nat) : Int) % 128 = 0 → mm = 1 := fun h => by omega
      have hpn : ¬ ((a + 4 * (j + 1) : Nat) : Int) % 128 = 0 → ((j + 1 : Nat) : Int) < 32 - (a : Int) % 128 / 4 := fun h => by omega
      have hidx : (a + 4 * j) / 4 < n := by omega
      rw [hst] at hinv
      clear hwl hst h hgl
      generalize xs.getD (a / 4 + j) 0 = w at *
      have hRs := mcs_scal R
      have hRl := mcs_len R
      have hRk := mcs_known R
      have cde := rdec_fn w hw
      have hdr := d_rng w hw
      cases hd : dOk w with
      | false =>
        rw [hd] at cde
        change Fn _ _ _ _ (· = ⟨.tup [.agg (iv 0 0 0 0 0), .s (.bool false)], [], []⟩) at cde
        unfold iv at cde
        rw [hd, if_neg (by simp), List.append_nil] at hinv
        subst hinv
        have hKj : K = j := by omega
        subst hKj
        have k1 := e5
        have k2 := e5
        have k3 := e5
        have e6 := e5
        have e7 := e5
        generalize hRR : mcs R = RR at *
        (repeat' ((conv => whnf); first | ((with_reducible apply Vl.mk (α := Int)); · with_reducible first | exact k1 | exact k2 | exact k3 | exact e4 | exact e5 | exact e6 | exact e7)  |  (apply Sd.mk; · first | (show (a + 4 * j) / 4 < n; omega) | (refine ⟨rfl, rfl, ?_, ?_, ?_⟩; (focus (show RR.length = j * 6; omega)); (focus (show (j + 1) * 48 ≤ _; omega)); (focus omega)) | omega)  |  ((with_reducible apply Vl.mk (α := Nat)); · with_reducible exact x1)  |  ((with_reducible apply Ge.mk (α := SV)); · exact hge)  |  (refine vcall_pure (f := 29) (cde) rfl ?_) | (with_reducible apply sd_draw; · kernel_rfl) | (apply Sd.mk; · exact aSd) | ((with_reducible apply Vl.mk (α := Int)); · exact aAr) | ((with_reducible first | apply Vl.mk (α := Bool) | apply Vl.mk (α := Nat) | apply Vl.mk (α := ByteArray) | apply Ge.mk (α := Row) | apply Ge.mk (α := SV) | apply Ge.mk (α := AV)); · exact rfl) | (refine And.intro rfl ?_) | ((with_reducible first | apply Vl.mk (α := List SV) | apply Vl.mk (α := Ef) | apply Vl.mk (α := TV) | apply Ge.mk (α := List SV) | apply Sg.mk | apply Sk.mk); · exact aCl) | ((first | apply Br.mk | apply Gd.mk) <;> (intro hb; first | exact aKl hb | (simp only [d1, d2, beq_iff_eq, bne_iff_ne, d3, d4, d5, d6, Int.not_lt, Int.not_le, ge_iff_le, gt_iff_lt, ne_eq, d7] at hb; first | (exfalso; omega) | skip) | skip)))); (all_goals (try (conv => whnf)))
        all_goals first | (apply Fin.mk (m := [(0, some 0), (1, some 3)]); (focus exact rfl); (all_goals ((try (show HlS _ _ [] _)); first | (exact aFi) | exact rfl))) | trace_state
      | true =>
        rw [hd] at cde
        change Fn _ _ _ _ (· = ⟨.tup [.agg (iv (dOp w) (dA w) (dB w) (dC w) (dM w)), .s (.bool true)], [], []⟩) at cde
        unfold iv at cde
        rw [hd, if_pos rfl] at hinv
        have cen := rends_fn (dOp w)
        have cbr := rbranchC_fn (dOp w)
        have e6 := e5
        have e7 := e5
        have k1 : IntKind.u32.wrap (dM w) = dM w % 4294967296 := wu32' _
        have k2' : IntKind.u32.wrap (dM w % 4294967296 * 2 ^ min ((16 : Int)).toNat IntKind.u32.bits) = dM w % 4294967296 * 65536 % 4294967296 := shl16 _
        have k3' : IntKind.u32.wrap (4 * (dM w % 4294967296)) = dM w % 4294967296 * 4 % 4294967296 := by rw [wu32']; omega
        have k2 : dOp w = 24 → IntKind.u32.wrap (dM w % 4294967296 * 2 ^ min ((16 : Int)).toNat IntKind.u32.bits) = trK (dOp w) (dM w) := fun h => by rw [k2', h]; exact (trK24 _).symm
        have k3 : (40 ≤ dOp w ∧ dOp w ≤ 45 ∨ dOp w = 48) → IntKind.u32.wrap (4 * (dM w % 4294967296)) = trK (dOp w) (dM w) := fun h => by rw [k3', trK4 _ _ h]
        have k4 : dOp w ≠ 24 → ¬ (40 ≤ dOp w ∧ dOp w ≤ 45 ∨ dOp w = 48) → dM w % 4294967296 = trK (dOp w) (dM w) := fun h h2 => (trK0 _ _ h h2).symm
        clear k2' k3'
        have happ : mcs R ++ [.int .i64 (dOp w), .int .i64 (dA w), .int .i64 (dB w), .int .i64 (dC w), .int .u32 (trK (dOp w) (dM w)), .int .i64 1] = mcs (R ++ [bM w]) := by
          rw [mcs_app]
          show _ = mcs R ++ ((bM w).C ++ [])
          rw [hC, List.append_nil]; rfl
        have hRs2 := mcs_scal (R ++ [bM w])
        clear hC
        have hbr1 : (40 ≤ dOp w ∧ dOp w ≤ 45) → branC (dOp w) = true := fun h => by unfold branC; exact decide_eq_true h
        have hbr0 : ¬ (40 ≤ dOp w ∧ dOp w ≤ 45) → branC (dOp w) = false := fun h => by unfold branC; exact decide_eq_false h
        generalize hMM : bM w = M at *
        generalize hTT : trK (dOp w) (dM w) = T at *
        generalize hOO : dOp w = o at *
        generalize dA w = A at *
        generalize dB w = B at *
        generalize dC w = C at *
        generalize dM w = I at *
        generalize I % 4294967296 = J at *
        have hR2l : (R ++ [M]).length = j + 1 := by simp; omega
        have hfin1 : endsB o = true → R ++ [M] = l := fun h => by rw [← hinv, if_pos h]
        have hfin2 : mm = 1 → R ++ [M] = l := fun h => by
          rw [← hinv]
          split
          · rfl
          · rw [hlast h]
        have hnx : endsB o = false → (R ++ [M]) ++ bl xs (mm - 1) (a / 4 + (j + 1)) = l := fun h => by rw [← hinv, if_neg (by rw [h]; simp), List.append_assoc]; rfl
        generalize hEE : endsB o = E at *
        generalize hR2 : R ++ [M] = R2 at *
        clear hinv hlast hR2 hMM hTT hOO
        generalize hRR : mcs R = RR at *
        generalize hRM : mcs R2 = RM at *
        rcases (by omega : o = 24 ∨ (40 ≤ o ∧ o ≤ 45) ∨ o = 48 ∨ (o ≠ 24 ∧ ¬ (40 ≤ o ∧ o ≤ 45) ∧ o ≠ 48)) with ho | ho | ho | ho
        · have k2 := k2 ho
          rw [hbr0 (by omega)] at cbr
          clear k3 k4
          have k3 := k2
          (repeat' ((conv => whnf); first | ((with_reducible apply Vl.mk (α := Int)); · with_reducible first | exact k1 | exact k2 | exact k3 | exact e4 | exact e5 | exact e6 | exact e7)  |  (apply Sd.mk; · first | (show (a + 4 * j) / 4 < n; omega) | (refine ⟨rfl, rfl, ?_, ?_, ?_⟩; (focus (show RR.length = j * 6; omega)); (focus (show (j + 1) * 48 ≤ _; omega)); (focus omega)) | omega)  |  ((with_reducible apply Vl.mk (α := Nat)); · with_reducible exact x1)  |  ((with_reducible apply Ge.mk (α := SV)); · exact hge)  |  (refine vcall_pure (f := 29) (cde) rfl ?_)  |  (refine vcall_pure (f := 30) (cbr) rfl ?_)  |  (refine vcall_pure (f := 31) (cen) rfl ?_)  |  ((with_reducible apply Vl.mk (α := List SV)); · with_reducible exact happ) | (with_reducible apply sd_draw; · kernel_rfl) | (apply Sd.mk; · exact aSd) | ((with_reducible apply Vl.mk (α := Int)); · exact aAr) | ((with_reducible first | apply Vl.mk (α := Bool) | apply Vl.mk (α := Nat) | apply Vl.mk (α := ByteArray) | apply Ge.mk (α := Row) | apply Ge.mk (α := SV) | apply Ge.mk (α := AV)); · exact rfl) | (refine And.intro rfl ?_) | ((with_reducible first | apply Vl.mk (α := List SV) | apply Vl.mk (α := Ef) | apply Vl.mk (α := TV) | apply Ge.mk (α := List SV) | apply Sg.mk | apply Sk.mk); · exact aCl) | ((first | apply Br.mk | apply Gd.mk) <;> (intro hb; first | exact aKl hb | (simp only [d1, d2, beq_iff_eq, bne_iff_ne, d3, d4, d5, d6, Int.not_lt, Int.not_le, ge_iff_le, gt_iff_lt, ne_eq, d7] at hb; first | (exfalso; omega) | skip) | skip)))); (all_goals (try (conv => whnf)))
          all_goals first
            | (have hfin := (by first | exact hfin1 (by assumption) | exact hfin2 (hpe (by omega)) : R2 = l)
               have hKj : K = j + 1 := by rw [← hK, ← hfin]; exact hR2l
               rw [hKj, ← hfin, hRM]
               (apply Fin.mk (m := [(0, some 0), (1, some _)]); (focus exact rfl); (all_goals ((try (show HlS _ _ [] _)); first | (exact aFi) | exact rfl))))
            | (refine ⟨mm - 1, rbst LL n a s (j + 1) RM, by omega, ?_, j + 1, R2, by omega, hpn (by omega), hR2l, hnx (by assumption), by rw [hRM]; rfl⟩
               apply wk_of (m := [(0, some 0), (1, some 1), (2, some 2), (3, some 459584)])
               · repeat' (first | exact tml_nil | apply tml_cons)
                 all_goals first | exact tvm_a (avm_s (svm_same rfl)) | exact tvm_a (avm_s (svm_ptr rfl)) | exact tvm_a (avm_s (svm_sl rfl))
               · show HlS _ _ [] _
                 refine hls_row (rowmt_mk rfl rfl rfl rfl (svsm_scal hsc)) ?_
                 refine hls_row (rowmt_mk rfl rfl rfl rfl (.cons (svm_same rfl) (.cons (svm_same rfl) (.cons (svm_sl rfl) .nil)))) ?_
                 refine hls_row (rowmt_mk rfl rfl rfl rfl (svsm_scal rfl)) ?_
                 refine hls_row (rowmt_mk rfl rfl rfl rfl (svsm_scal hRs2)) ?_
                 exact hls_nil
               · rfl
               )
            | trace_state
        · have k3 := k3 (.inl ho)
          rw [hbr1 ho] at cbr
          clear k2 k4
          have k2 := k3
          (repeat' ((conv => whnf); first | ((with_reducible apply Vl.mk (α := Int)); · with_reducible first | exact k1 | exact k2 | exact k3 | exact e4 | exact e5 | exact e6 | exact e7)  |  (apply Sd.mk; · first | (show (a + 4 * j) / 4 < n; omega) | (refine ⟨rfl, rfl, ?_, ?_, ?_⟩; (focus (show RR.length = j * 6; omega)); (focus (show (j + 1) * 48 ≤ _; omega)); (focus omega)) | omega)  |  ((with_reducible apply Vl.mk (α := Nat)); · with_reducible exact x1)  |  ((with_reducible apply Ge.mk (α := SV)); · exact hge)  |  (refine vcall_pure (f := 29) (cde) rfl ?_)  |  (refine vcall_pure (f := 30) (cbr) rfl ?_)  |  (refine vcall_pure (f := 31) (cen) rfl ?_)  |  ((with_reducible apply Vl.mk (α := List SV)); · with_reducible exact happ) | (with_reducible apply sd_draw; · kernel_rfl) | (apply Sd.mk; · exact aSd) | ((with_reducible apply Vl.mk (α := Int)); · exact aAr) | ((with_reducible first | apply Vl.mk (α := Bool) | apply Vl.mk (α := Nat) | apply Vl.mk (α := ByteArray) | apply Ge.mk (α := Row) | apply Ge.mk (α := SV) | apply Ge.mk (α := AV)); · exact rfl) | (refine And.intro rfl ?_) | ((with_reducible first | apply Vl.mk (α := List SV) | apply Vl.mk (α := Ef) | apply Vl.mk (α := TV) | apply Ge.mk (α := List SV) | apply Sg.mk | apply Sk.mk); · exact aCl) | ((first | apply Br.mk | apply Gd.mk) <;> (intro hb; first | exact aKl hb | (simp only [d1, d2, beq_iff_eq, bne_iff_ne, d3, d4, d5, d6, Int.not_lt, Int.not_le, ge_iff_le, gt_iff_lt, ne_eq, d7] at hb; first | (exfalso; omega) | skip) | skip)))); (all_goals (try (conv => whnf)))
          all_goals first
            | (have hfin := (by first | exact hfin1 (by assumption) | exact hfin2 (hpe (by omega)) : R2 = l)
               have hKj : K = j + 1 := by rw [← hK, ← hfin]; exact hR2l
               rw [hKj, ← hfin, hRM]
               (apply Fin.mk (m := [(0, some 0), (1, some _)]); (focus exact rfl); (all_goals ((try (show HlS _ _ [] _)); first | (exact aFi) | exact rfl))))
            | (refine ⟨mm - 1, rbst LL n a s (j + 1) RM, by omega, ?_, j + 1, R2, by omega, hpn (by omega), hR2l, hnx (by assumption), by rw [hRM]; rfl⟩
               apply wk_of (m := [(0, some 0), (1, some 1), (2, some 2), (3, some 525120)])
               · repeat' (first | exact tml_nil | apply tml_cons)
                 all_goals first | exact tvm_a (avm_s (svm_same rfl)) | exact tvm_a (avm_s (svm_ptr rfl)) | exact tvm_a (avm_s (svm_sl rfl))
               · show HlS _ _ [] _
                 refine hls_row (rowmt_mk rfl rfl rfl rfl (svsm_scal hsc)) ?_
                 refine hls_row (rowmt_mk rfl rfl rfl rfl (.cons (svm_same rfl) (.cons (svm_same rfl) (.cons (svm_sl rfl) .nil)))) ?_
                 refine hls_row (rowmt_mk rfl rfl rfl rfl (svsm_scal rfl)) ?_
                 refine hls_row (rowmt_mk rfl rfl rfl rfl (svsm_scal hRs2)) ?_
                 exact hls_nil
               · rfl
               )
            | trace_state
        · have k3 := k3 (.inr ho)
          rw [hbr0 (by omega)] at cbr
          clear k2 k4
          have k2 := k3
          (repeat' ((conv => whnf); first | ((with_reducible apply Vl.mk (α := Int)); · with_reducible first | exact k1 | exact k2 | exact k3 | exact e4 | exact e5 | exact e6 | exact e7)  |  (apply Sd.mk; · first | (show (a + 4 * j) / 4 < n; omega) | (refine ⟨rfl, rfl, ?_, ?_, ?_⟩; (focus (show RR.length = j * 6; omega)); (focus (show (j + 1) * 48 ≤ _; omega)); (focus omega)) | omega)  |  ((with_reducible apply Vl.mk (α := Nat)); · with_reducible exact x1)  |  ((with_reducible apply Ge.mk (α := SV)); · exact hge)  |  (refine vcall_pure (f := 29) (cde) rfl ?_)  |  (refine vcall_pure (f := 30) (cbr) rfl ?_)  |  (refine vcall_pure (f := 31) (cen) rfl ?_)  |  ((with_reducible apply Vl.mk (α := List SV)); · with_reducible exact happ) | (with_reducible apply sd_draw; · kernel_rfl) | (apply Sd.mk; · exact aSd) | ((with_reducible apply Vl.mk (α := Int)); · exact aAr) | ((with_reducible first | apply Vl.mk (α := Bool) | apply Vl.mk (α := Nat) | apply Vl.mk (α := ByteArray) | apply Ge.mk (α := Row) | apply Ge.mk (α := SV) | apply Ge.mk (α := AV)); · exact rfl) | (refine And.intro rfl ?_) | ((with_reducible first | apply Vl.mk (α := List SV) | apply Vl.mk (α := Ef) | apply Vl.mk (α := TV) | apply Ge.mk (α := List SV) | apply Sg.mk | apply Sk.mk); · exact aCl) | ((first | apply Br.mk | apply Gd.mk) <;> (intro hb; first | exact aKl hb | (simp only [d1, d2, beq_iff_eq, bne_iff_ne, d3, d4, d5, d6, Int.not_lt, Int.not_le, ge_iff_le, gt_iff_lt, ne_eq, d7] at hb; first | (exfalso; omega) | skip) | skip)))); (all_goals (try (conv => whnf)))
          all_goals first
            | (have hfin := (by first | exact hfin1 (by assumption) | exact hfin2 (hpe (by omega)) : R2 = l)
               have hKj : K = j + 1 := by rw [← hK, ← hfin]; exact hR2l
               rw [hKj, ← hfin, hRM]
               (apply Fin.mk (m := [(0, some 0), (1, some _)]); (focus exact rfl); (all_goals ((try (show HlS _ _ [] _)); first | (exact aFi) | exact rfl))))
            | (refine ⟨mm - 1, rbst LL n a s (j + 1) RM, by omega, ?_, j + 1, R2, by omega, hpn (by omega), hR2l, hnx (by assumption), by rw [hRM]; rfl⟩
               apply wk_of (m := [(0, some 0), (1, some 1), (2, some 2), (3, some 525120)])
               · repeat' (first | exact tml_nil | apply tml_cons)
                 all_goals first | exact tvm_a (avm_s (svm_same rfl)) | exact tvm_a (avm_s (svm_ptr rfl)) | exact tvm_a (avm_s (svm_sl rfl))
               · show HlS _ _ [] _
                 refine hls_row (rowmt_mk rfl rfl rfl rfl (svsm_scal hsc)) ?_
                 refine hls_row (rowmt_mk rfl rfl rfl rfl (.cons (svm_same rfl) (.cons (svm_same rfl) (.cons (svm_sl rfl) .nil)))) ?_
                 refine hls_row (rowmt_mk rfl rfl rfl rfl (svsm_scal rfl)) ?_
                 refine hls_row (rowmt_mk rfl rfl rfl rfl (svsm_scal hRs2)) ?_
                 exact hls_nil
               · rfl
               )
            | trace_state
        · have k4 := k4 ho.1 (by omega)
          rw [hbr0 (by omega)] at cbr
          clear k2 k3
          rw [k4] at k1
          have k2 := k1
          have k3 := k1
          (repeat' ((conv => whnf); first | ((with_reducible apply Vl.mk (α := Int)); · with_reducible first | exact k1 | exact k2 | exact k3 | exact e4 | exact e5 | exact e6 | exact e7)  |  (apply Sd.mk; · first | (show (a + 4 * j) / 4 < n; omega) | (refine ⟨rfl, rfl, ?_, ?_, ?_⟩; (focus (show RR.length = j * 6; omega)); (focus (show (j + 1) * 48 ≤ _; omega)); (focus omega)) | omega)  |  ((with_reducible apply Vl.mk (α := Nat)); · with_reducible exact x1)  |  ((with_reducible apply Ge.mk (α := SV)); · exact hge)  |  (refine vcall_pure (f := 29) (cde) rfl ?_)  |  (refine vcall_pure (f := 30) (cbr) rfl ?_)  |  (refine vcall_pure (f := 31) (cen) rfl ?_)  |  ((with_reducible apply Vl.mk (α := List SV)); · with_reducible exact happ) | (with_reducible apply sd_draw; · kernel_rfl) | (apply Sd.mk; · exact aSd) | ((with_reducible apply Vl.mk (α := Int)); · exact aAr) | ((with_reducible first | apply Vl.mk (α := Bool) | apply Vl.mk (α := Nat) | apply Vl.mk (α := ByteArray) | apply Ge.mk (α := Row) | apply Ge.mk (α := SV) | apply Ge.mk (α := AV)); · exact rfl) | (refine And.intro rfl ?_) | ((with_reducible first | apply Vl.mk (α := List SV) | apply Vl.mk (α := Ef) | apply Vl.mk (α := TV) | apply Ge.mk (α := List SV) | apply Sg.mk | apply Sk.mk); · exact aCl) | ((first | apply Br.mk | apply Gd.mk) <;> (intro hb; first | exact aKl hb | (simp only [d1, d2, beq_iff_eq, bne_iff_ne, d3, d4, d5, d6, Int.not_lt, Int.not_le, ge_iff_le, gt_iff_lt, ne_eq, d7] at hb; first | (exfalso; omega) | skip) | skip)))); (all_goals (try (conv => whnf)))
          all_goals first
            | (have hfin := (by first | exact hfin1 (by assumption) | exact hfin2 (hpe (by omega)) : R2 = l)
               have hKj : K = j + 1 := by rw [← hK, ← hfin]; exact hR2l
               rw [hKj, ← hfin, hRM]
               (apply Fin.mk (m := [(0, some 0), (1, some _)]); (focus exact rfl); (all_goals ((try (show HlS _ _ [] _)); first | (exact aFi) | exact rfl))))
            | (refine ⟨mm - 1, rbst LL n a s (j + 1) RM, by omega, ?_, j + 1, R2, by omega, hpn (by omega), hR2l, hnx (by assumption), by rw [hRM]; rfl⟩
               apply wk_of (m := [(0, some 0), (1, some 1), (2, some 2), (3, some 459584)])
               · repeat' (first | exact tml_nil | apply tml_cons)
                 all_goals first | exact tvm_a (avm_s (svm_same rfl)) | exact tvm_a (avm_s (svm_ptr rfl)) | exact tvm_a (avm_s (svm_sl rfl))
               · show HlS _ _ [] _
                 refine hls_row (rowmt_mk rfl rfl rfl rfl (svsm_scal hsc)) ?_
                 refine hls_row (rowmt_mk rfl rfl rfl rfl (.cons (svm_same rfl) (.cons (svm_same rfl) (.cons (svm_sl rfl) .nil)))) ?_
                 refine hls_row (rowmt_mk rfl rfl rfl rfl (svsm_scal rfl)) ?_
                 refine hls_row (rowmt_mk rfl rfl rfl rfl (svsm_scal hRs2)) ?_
                 exact hls_nil
               · rfl
               )
            | trace_state
    · have hm0 : mm = 0 := by omega
      subst hm0
      have hinv2 : R = l := by rw [← hinv]; show R = R ++ []; rw [List.append_nil]
      subst hinv2
      have hKj : K = j := by omega
      subst hKj
      have hRs := mcs_scal R
      generalize mcs R = RR at *
      (repeat' ((conv => whnf); first | (with_reducible apply sd_draw; · kernel_rfl) | (apply Sd.mk; · exact aSd) | ((with_reducible apply Vl.mk (α := Int)); · exact aAr) | ((with_reducible first | apply Vl.mk (α := Bool) | apply Vl.mk (α := Nat) | apply Vl.mk (α := ByteArray) | apply Ge.mk (α := Row) | apply Ge.mk (α := SV) | apply Ge.mk (α := AV)); · exact rfl) | (refine And.intro rfl ?_) | ((with_reducible first | apply Vl.mk (α := List SV) | apply Vl.mk (α := Ef) | apply Vl.mk (α := TV) | apply Ge.mk (α := List SV) | apply Sg.mk | apply Sk.mk); · exact aCl) | ((first | apply Br.mk | apply Gd.mk) <;> (intro hb; first | exact aKl hb | (simp only [d1, d2, beq_iff_eq, bne_iff_ne, d3, d4, d5, d6, Int.not_lt, Int.not_le, ge_iff_le, gt_iff_lt, ne_eq, d7] at hb; first | (exfalso; omega) | skip) | skip)))); (all_goals (try (conv => whnf)))
      all_goals first | (apply Fin.mk (m := [(0, some 0), (1, some 3)]); (focus exact rfl); (all_goals ((try (show HlS _ _ [] _)); first | (exact aFi) | exact rfl))) | trace_state
end Go.Proofs.Ytcaddlighhiepaa

/- Blocks that are built: they may stand; both sides build the same; frames. -/
namespace Go.Proofs.Ytcaddlighhiepaa
open Go Go.RowKit
set_option linter.unusedSimpArgs false
set_option linter.unusedVariables false

theorem dok_c (w : Nat) (hw : w < 4294967296) (h : dOk w = true) : dC w ≤ 15 ∧ useOk (dOp w) = true := by
  unfold dOk at h
  rw [Bool.and_eq_true] at h
  refine ⟨?_, h.1⟩
  have h2 := h.2
  unfold validB at h2
  simp only [Bool.and_eq_true] at h2
  have h3 := h2.1.1.2
  cases hu : useC (dOp w) with
  | false => unfold dC; rw [hu]; simp
  | true =>
    rw [hu] at h3
    unfold regB at h3
    simp only [Bool.and_eq_true, decide_eq_true_eq] at h3
    exact h3.2
theorem bM_ok (w : Nat) (hw : w < 4294967296) (h : dOk w = true) : MiOk (bM w) := by
  have hd := d_rng w hw
  have hc := (dok_c w hw h).1
  have ht := trK_rng (dOp w) (dM w)
  unfold MiOk bM
  dsimp only
  generalize trK (dOp w) (dM w) = T at *
  omega
theorem bl_ok (xs : List Nat) (hw : ∀ j, xs.getD j 0 < 4294967296) : ∀ f q, ∀ m ∈ bl xs f q, MiOk m
  | 0, _, m, h => by cases h
  | f + 1, q, m, h => by
    unfold bl at h
    split at h
    · rename_i hd
      split at h
      · rw [List.mem_singleton] at h; subst h; exact bM_ok _ (hw q) hd
      · rcases List.mem_cons.1 h with e | e
        · subst e; exact bM_ok _ (hw q) hd
        · exact bl_ok xs hw f (q + 1) m e
    · cases h
theorem bl_sum (xs : List Nat) (hw : ∀ j, xs.getD j 0 < 4294967296) : ∀ f q (s : Int), maySum ((bl xs f q).map Mi.z) s = some (s + (bl xs f q).length)
  | 0, _, s => by show some s = some (s + 0); rw [Int.add_zero]
  | f + 1, q, s => by
    unfold bl
    by_cases hd : dOk (xs.getD q 0) = true
    · have hok := bM_ok _ (hw q) hd
      have hu := (dok_c _ (hw q) hd).2
      have hr : (bM (xs.getD q 0)).a < 16 ∧ (bM (xs.getD q 0)).b < 16 ∧ (bM (xs.getD q 0)).c < 16 := ⟨hok.1, hok.2.1, hok.2.2.1⟩
      have hz : (bM (xs.getD q 0)).z.n = 1 := rfl
      rw [if_pos hd]
      by_cases he : endsB (dOp (xs.getD q 0)) = true
      · rw [if_pos he, List.map_cons, maySum, if_pos ((okM_z (bM (xs.getD q 0)) ([].map Mi.z).isEmpty hr).2 ⟨hu, by show (1 : Int) ≤ 1; omega, by show (1 : Int) ≤ 16; omega, .inl rfl⟩), hz, List.map_nil, maySum, List.length_singleton]
        congr 1
      · have he2 : endsB (bM (xs.getD q 0)).o = false := by
          show endsB (dOp (xs.getD q 0)) = false
          simpa using he
        rw [if_neg he, List.map_cons, maySum, if_pos ((okM_z (bM (xs.getD q 0)) _ hr).2 ⟨hu, by show (1 : Int) ≤ 1; omega, by show (1 : Int) ≤ 16; omega, .inr he2⟩), hz, bl_sum xs hw f (q + 1)]
        congr 1
        rw [List.length_cons]; omega
    · rw [if_neg hd]
      show some s = some (s + 0); rw [Int.add_zero]
theorem getD_lt4 {xs : List Nat} (h : ∀ y ∈ xs, y < 4294967296) (j : Nat) : xs.getD j 0 < 4294967296 := by
  by_cases hj : j < xs.length
  · rw [List.getD_eq_getElem?_getD, List.getElem?_eq_getElem hj]; exact h _ (List.getElem_mem hj)
  · rw [List.getD_eq_getElem?_getD, List.getElem?_eq_none (by omega)]; simp
/-- What is built. -/
theorem blL_facts (xs : List Nat) (n a : Nat) (s : Int) (hxr : ∀ y ∈ xs, y < 4294967296) : (blL xs n a s).length ≤ 16 ∧ (∀ m ∈ blL xs n a s, MiOk m) ∧ ((blL xs n a s).length ≠ 0 → mayV (blA n a s) (blL xs n a s).length ((blL xs n a s).map Mi.z) = true) := by
  unfold blL blA
  cases h : bok n a s with
  | false => exact ⟨by simp, fun m hm => by simp at hm, fun h0 => (h0 (by simp)).elim⟩
  | true =>
    rw [if_pos rfl, if_pos rfl]
    have hb2 : 1 ≤ s ∧ ld4 n a = true := by unfold bok at h; simpa using h
    have hal : a % 4 = 0 := by
      have := hb2.2
      unfold ld4 at this
      simp at this
      exact this.1
    have hl := bl_len xs (lmt a s) (a / 4)
    have hl2 : lmt a s ≤ 16 ∧ (lmt a s : Int) ≤ 32 - (a : Int) % 128 / 4 := by unfold lmt; omega
    refine ⟨by omega, bl_ok xs (getD_lt4 hxr) _ _, fun h0 => ?_⟩
    rw [mayV_iff]
    refine ⟨?_, ?_⟩
    · unfold hdB; exact decide_eq_true (by omega)
    · rw [bl_sum xs (getD_lt4 hxr)]; simp
theorem buildA_fn (xs : List Nat) (n a : Nat) (s : Int) (hl : xs.length = n) (hn : n < 4294967296) (ha : a < 4294967296) (hxr : ∀ y ∈ xs, y < 4294967296) (K : Nat) (hK : (blL xs n a s).length = K) :
    Fn Try.prog 44 [.s (.sl 0 0 n), .s (.int .u32 a), .s (.int .i64 s)] [⟨false, 1, wsv xs⟩] (· = ⟨.a (.agg [.int .u32 (blA n a s : Nat), .int .i64 K, .sl 1 0 K]), [], [⟨true, 6, mcs (blL xs n a s)⟩]⟩) := by
  unfold blL at hK ⊢
  unfold blA
  cases h : bok n a s with
  | false => rw [h] at hK; subst hK; exact build_no xs n a s hl hn ha h
  | true => rw [h, if_pos rfl] at hK; exact build_ok xs n a s hl hn ha hxr h _ rfl K hK
theorem rbuildA_fn (xs : List Nat) (n a : Nat) (s : Int) (hl : xs.length = n) (hn : n < 4294967296) (ha : a < 4294967296) (hxr : ∀ y ∈ xs, y < 4294967296) (K : Nat) (hK : (blL xs n a s).length = K) :
    Fn Try.prog 10 [.s (.sl 0 0 n), .s (.int .u32 a), .s (.int .i64 s)] [⟨false, 1, wsv xs⟩] (· = ⟨.a (.agg [.int .u32 (blA n a s : Nat), .int .i64 K, .sl 1 0 K]), [], [⟨true, 6, mcs (blL xs n a s)⟩]⟩) := by
  unfold blL at hK ⊢
  unfold blA
  cases h : bok n a s with
  | false => rw [h] at hK; subst hK; exact rbuild_no xs n a s hl hn ha h
  | true => rw [h, if_pos rfl] at hK; exact rbuild_ok xs n a s hl hn ha hxr h _ rfl K hK
set_option maxRecDepth 100000 in
theorem frame_fn (A : Nat) (hA : A < 4294967296) (L : Int) (N : Nat) (M : List SV) (hs : allScal M = true) : Fn Try.prog 40 [.agg [.int .u32 A, .int .i64 L, .sl 0 0 N]] [⟨false, 6, M⟩] (· = ⟨.a (.s (.int .i64 ((A / 128 : Nat) : Int))), [], []⟩) := by
  have e1 : (A : Int) / 128 = ((A / 128 : Nat) : Int) := by omega
  have e2 : IntKind.i64.wrap ((A : Int) / 128) = ((A / 128 : Nat) : Int) := by rw [wi64 (by omega) (by omega)]; omega
  refine fn_of_vc mixed tys_ok _ _ Try.func40 (by kernel_rfl) rfl Try.ntmps40 (by rw [Try.results40]) rfl ?_; dsimp only [argTm, argHl, Nat.zero_add, Nat.reduceAdd, List.length_nil, List.length_cons]
  (repeat' ((conv => whnf); first | ((with_reducible apply Vl.mk (α := Int)); · with_reducible exact e2) | (with_reducible apply sd_draw; · kernel_rfl) | (apply Sd.mk; · exact aSd) | ((with_reducible apply Vl.mk (α := Int)); · exact aAr) | ((with_reducible first | apply Vl.mk (α := Bool) | apply Vl.mk (α := Nat) | apply Vl.mk (α := ByteArray) | apply Ge.mk (α := Row) | apply Ge.mk (α := SV) | apply Ge.mk (α := AV)); · exact rfl) | (refine And.intro rfl ?_) | ((with_reducible first | apply Vl.mk (α := List SV) | apply Vl.mk (α := Ef) | apply Vl.mk (α := TV) | apply Ge.mk (α := List SV) | apply Sg.mk | apply Sk.mk); · exact aCl) | ((first | apply Br.mk | apply Gd.mk) <;> (intro hb; first | exact aKl hb | (simp only [d1, d2, beq_iff_eq, bne_iff_ne, d3, d4, d5, d6, Int.not_lt, Int.not_le, ge_iff_le, gt_iff_lt, ne_eq, d7] at hb; first | (exfalso; omega) | skip) | skip)))); (all_goals (try (conv => whnf)))
  all_goals first | (apply Fin.mk (m := [(0, some 0)]); (focus exact rfl); (all_goals ((try (show HlS _ _ [] _)); first | (exact aFi) | exact rfl))) | trace_state
set_option maxRecDepth 100000 in
theorem rframe_fn (A : Nat) (hA : A < 4294967296) (L : Int) (N : Nat) (M : List SV) (hs : allScal M = true) : Fn Try.prog 42 [.agg [.int .u32 A, .int .i64 L, .sl 0 0 N]] [⟨false, 6, M⟩] (· = ⟨.a (.s (.int .i64 ((A / 128 : Nat) : Int))), [], []⟩) := by
  have e2 : IntKind.i64.wrap ((A : Int) / 128) = ((A / 128 : Nat) : Int) := by rw [wi64 (by omega) (by omega)]; omega
  refine fn_of_vc mixed tys_ok _ _ Try.func42 (by kernel_rfl) rfl Try.ntmps42 (by rw [Try.results42]) rfl ?_; dsimp only [argTm, argHl, Nat.zero_add, Nat.reduceAdd, List.length_nil, List.length_cons]
  (repeat' ((conv => whnf); first | ((with_reducible apply Vl.mk (α := Int)); · with_reducible exact e2) | (with_reducible apply sd_draw; · kernel_rfl) | (apply Sd.mk; · exact aSd) | ((with_reducible apply Vl.mk (α := Int)); · exact aAr) | ((with_reducible first | apply Vl.mk (α := Bool) | apply Vl.mk (α := Nat) | apply Vl.mk (α := ByteArray) | apply Ge.mk (α := Row) | apply Ge.mk (α := SV) | apply Ge.mk (α := AV)); · exact rfl) | (refine And.intro rfl ?_) | ((with_reducible first | apply Vl.mk (α := List SV) | apply Vl.mk (α := Ef) | apply Vl.mk (α := TV) | apply Ge.mk (α := List SV) | apply Sg.mk | apply Sk.mk); · exact aCl) | ((first | apply Br.mk | apply Gd.mk) <;> (intro hb; first | exact aKl hb | (simp only [d1, d2, beq_iff_eq, bne_iff_ne, d3, d4, d5, d6, Int.not_lt, Int.not_le, ge_iff_le, gt_iff_lt, ne_eq, d7] at hb; first | (exfalso; omega) | skip) | skip)))); (all_goals (try (conv => whnf)))
  all_goals first | (apply Fin.mk (m := [(0, some 0)]); (focus exact rfl); (all_goals ((try (show HlS _ _ [] _)); first | (exact aFi) | exact rfl))) | trace_state
end Go.Proofs.Ytcaddlighhiepaa
