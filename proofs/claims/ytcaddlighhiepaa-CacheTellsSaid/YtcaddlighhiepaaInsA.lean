/- Instructions made from numbers. -/
import Derived.Test.YtcaddlighhiepaaIsaV
import Derived.Test.YtcaddlighhiepaaMkA
namespace Go.Proofs.Ytcaddlighhiepaa
open Go Go.RowKit
set_option linter.unusedSimpArgs false
set_option linter.unusedVariables false

def opsL : List Int := [1, 2, 3, 4, 5, 6, 7, 8, 9, 10, 11, 12, 13, 16, 16, 17, 18, 19, 20, 21, 22, 23, 24, 24, 32, 32, 33, 34, 35, 35, 36, 40, 41, 42, 43, 44, 45, 48, 49, 56, 57, 58, 59, 60, 60, 61, 61, 62, 63, 64]
set_option maxRecDepth 100000 in
theorem ops_fn : Fn Try.prog 51 [] [] (· = ⟨.a (.s (.sl 0 0 50)), [], [⟨true, 1, isv .i64 opsL⟩]⟩) := by
  refine fn_of_vc mixed tys_ok _ _ Try.func51 (by kernel_rfl) rfl Try.ntmps51 (by rw [Try.results51]) rfl ?_; dsimp only [argTm, argHl, Nat.zero_add, Nat.reduceAdd, List.length_nil, List.length_cons]
  (repeat' ((conv => whnf); first | (with_reducible apply sd_draw; · kernel_rfl) | (apply Sd.mk; · exact aSd) | ((with_reducible apply Vl.mk (α := Int)); · exact aAr) | ((with_reducible first | apply Vl.mk (α := Bool) | apply Vl.mk (α := Nat) | apply Vl.mk (α := ByteArray) | apply Ge.mk (α := Row) | apply Ge.mk (α := SV) | apply Ge.mk (α := AV)); · exact rfl) | (refine And.intro rfl ?_) | ((with_reducible first | apply Vl.mk (α := List SV) | apply Vl.mk (α := Ef) | apply Vl.mk (α := TV) | apply Ge.mk (α := List SV) | apply Sg.mk | apply Sk.mk); · exact aCl) | ((first | apply Br.mk | apply Gd.mk) <;> (intro hb; first | exact aKl hb | (simp only [d1, d2, beq_iff_eq, bne_iff_ne, d3, d4, d5, d6, Int.not_lt, Int.not_le, ge_iff_le, gt_iff_lt, ne_eq, d7] at hb; first | (exfalso; omega) | skip) | skip)))); (all_goals (try (conv => whnf)))
  all_goals (apply Fin.mk (m := [(0, some _)]); (focus exact rfl); (all_goals ((try (show HlS _ _ [] _)); first | (exact aFi) | exact rfl)))
def io (n : Int) : Int := opsL.getD (mix n 1 % 50).toNat 0
def opOk (o : Int) : Prop := 1 ≤ o ∧ o ≤ 13 ∨ 16 ≤ o ∧ o ≤ 24 ∨ 32 ≤ o ∧ o ≤ 36 ∨ 40 ≤ o ∧ o ≤ 45 ∨ o = 48 ∨ o = 49 ∨ 56 ≤ o ∧ o ≤ 64
instance (o : Int) : Decidable (opOk o) := by unfold opOk; infer_instance
set_option maxRecDepth 100000 in
theorem ops_ok : ∀ q : Nat, q < 50 → opOk (opsL.getD q 0) := by decide
theorem io_ok (n : Int) : opOk (io n) := ops_ok _ (by omega)
def ir (n : Int) (d : Int) : Int := mix n 1 / d % 6
def ik (n : Int) : Int := mix n 1 / 1048576 % 24
/-- The instruction of a number. -/
def instV (n : Int) : List SV :=
  if io n ≤ 13 then iv (io n) (ir n 256) (ir n 4096) (ir n 65536) 0
  else if 40 ≤ io n ∧ io n ≤ 48 then iv (io n) (ir n 256) (if io n = 48 then 0 else ir n 4096) 0 (ik n - 12)
  else if io n = 16 ∨ io n = 23 ∨ 32 ≤ io n ∧ io n ≤ 36 ∨ io n = 49 then iv (io n) (ir n 256) (ir n 4096) 0 (8 * ik n - 32)
  else if io n = 24 then iv (io n) (ir n 256) 0 0 (ik n * (mix n 1 / 1099511627776 % 2))
  else if 17 ≤ io n ∧ io n ≤ 22 then iv (io n) (ir n 256) (ir n 4096) 0 (ik n)
  else if io n = 58 ∨ io n = 59 then iv (io n) (ir n 256) 0 0 (ik n % 8)
  else if io n = 60 ∨ io n = 61 then iv (io n) (ir n 256) 0 0 (ik n % 12)
  else iv (io n) 0 0 0 0
theorem sh8 (x : Int) : x / 2 ^ min (Int.toNat 8) IntKind.i64.bits = x / 256 := by rw [show (2 : Int) ^ min (Int.toNat 8) IntKind.i64.bits = 256 from rfl]
theorem sh12 (x : Int) : x / 2 ^ min (Int.toNat 12) IntKind.i64.bits = x / 4096 := by rw [show (2 : Int) ^ min (Int.toNat 12) IntKind.i64.bits = 4096 from rfl]
theorem sh16 (x : Int) : x / 2 ^ min (Int.toNat 16) IntKind.i64.bits = x / 65536 := by rw [show (2 : Int) ^ min (Int.toNat 16) IntKind.i64.bits = 65536 from rfl]
theorem sh20 (x : Int) : x / 2 ^ min (Int.toNat 20) IntKind.i64.bits = x / 1048576 := by rw [show (2 : Int) ^ min (Int.toNat 20) IntKind.i64.bits = 1048576 from rfl]
theorem sh40 (x : Int) : x / 2 ^ min (Int.toNat 40) IntKind.i64.bits = x / 1099511627776 := by rw [show (2 : Int) ^ min (Int.toNat 40) IntKind.i64.bits = 1099511627776 from rfl]
theorem and1_i64 (x : Int) (h0 : 0 ≤ x) (h1 : x < 9223372036854775808) : bits .and .i64 x 1 = x % 2 := by
  obtain ⟨n, rfl⟩ := Int.eq_ofNat_of_zero_le h0
  have e : ((BitVec.ofInt 64 (n : Int)) &&& (BitVec.ofInt 64 1)).toNat = n % 2 := by
    rw [BitVec.toNat_and, show (BitVec.ofInt 64 1).toNat = 1 from rfl, Nat.and_one_is_mod]
    have : (BitVec.ofInt 64 (n : Int)).toNat = n := by
      rw [BitVec.toNat_ofInt]; simp; omega
    rw [this]
  show IntKind.i64.wrap (((BitVec.ofInt 64 (n : Int)) &&& (BitVec.ofInt 64 1)).toNat : Int) = _
  rw [e, wi64 (by omega) (by omega)]; omega
theorem ops_get (q : Int) (h0 : 0 ≤ q) (h1 : q < 50) : (isv .i64 opsL)[0 + q.toNat * 1]? = some (.int .i64 (opsL.getD q.toNat 0)) := by
  rw [Nat.zero_add, Nat.mul_one]
  exact isv_get .i64 opsL q.toNat (by show q.toNat < 50; omega)
set_option maxHeartbeats 4000000 in
set_option maxRecDepth 100000 in
theorem inst_fn (n : Int) : Fn Try.prog 26 [.s (.int .i64 n)] [] (· = ⟨.a (.agg (instV n)), [], []⟩) := by
  have hm := mix_range n 1
  have ho := io_ok n
  unfold opOk at ho
  have hk : 0 ≤ ik n ∧ ik n < 24 := by unfold ik; omega
  have hq : 0 ≤ mix n 1 % 50 ∧ mix n 1 % 50 < 50 := by omega
  have a1 : bits .and .i64 (mix n 1 / 1099511627776) 1 = mix n 1 / 1099511627776 % 2 := and1_i64 _ (by omega) (by omega)
  have c1 := rnd_fn (mix n 1) 50 (by omega) (by omega)
  have c2 := rnd_fn (mix n 1 / 256) 6 (by omega) (by omega)
  have c3 := rnd_fn (mix n 1 / 4096) 6 (by omega) (by omega)
  have c4 := rnd_fn (mix n 1 / 65536) 6 (by omega) (by omega)
  have c5 := rnd_fn (mix n 1 / 1048576) 24 (by omega) (by omega)
  have c0 := mix_fn n 1
  have gq := ops_get _ hq.1 hq.2
  have hb2 : 0 ≤ mix n 1 / 1099511627776 % 2 ∧ mix n 1 / 1099511627776 % 2 < 2 := by omega
  have hkm : 0 ≤ ik n * (mix n 1 / 1099511627776 % 2) ∧ ik n * (mix n 1 / 1099511627776 % 2) < 24 := by
    rcases (by omega : mix n 1 / 1099511627776 % 2 = 0 ∨ mix n 1 / 1099511627776 % 2 = 1) with e | e <;> rw [e] <;> omega
  have k1 : IntKind.i64.wrap (ik n * (mix n 1 / 1099511627776 % 2)) = ik n * (mix n 1 / 1099511627776 % 2) := wi64 (by omega) (by omega)
  have k2 : IntKind.i32.wrap (ik n * (mix n 1 / 1099511627776 % 2)) = ik n * (mix n 1 / 1099511627776 % 2) := wi32 (by omega) (by omega)
  show Fn _ _ _ _ (· = ⟨.a (.agg (instV n)), [], []⟩)
  unfold instV
  change Fn _ _ [.s (.int .i64 (mix n 1 / 1048576)), _] _ (· = ⟨.a (.s (.int .i64 (ik n))), _, _⟩) at c5
  change Fn _ _ [.s (.int .i64 (mix n 1 / 256)), _] _ (· = ⟨.a (.s (.int .i64 (ir n 256))), _, _⟩) at c2
  change Fn _ _ [.s (.int .i64 (mix n 1 / 4096)), _] _ (· = ⟨.a (.s (.int .i64 (ir n 4096))), _, _⟩) at c3
  change Fn _ _ [.s (.int .i64 (mix n 1 / 65536)), _] _ (· = ⟨.a (.s (.int .i64 (ir n 65536))), _, _⟩) at c4
  change _ = some (SV.int .i64 (io n)) at gq
  have fo := ops_fn
  have hls : allScal (isv .i64 opsL) = true := isv_scal _ _
  generalize isv .i64 opsL = Lc at *
  generalize io n = o at *
  generalize ik n = k at *
  generalize ir n 256 = A at *
  generalize ir n 4096 = B at *
  generalize ir n 65536 = C at *
  generalize hM : mix n 1 = M at *
  generalize M / 1099511627776 % 2 = z at *
  refine fn_of_vc mixed tys_ok _ _ Try.func26 (by kernel_rfl) rfl Try.ntmps26 (by rw [Try.results26]) rfl ?_; dsimp only [argTm, argHl, Nat.zero_add, Nat.reduceAdd, List.length_nil, List.length_cons]
  (repeat' ((conv => whnf); first | (refine vcall_det (f := 51) fo [] [] rfl trivial trivial ⟨rfl, noUp⟩ ?_)  |  (refine vcall_pure (f := 22) (c0) rfl ?_)  |  (refine vcall_pure (f := 11) (c1) rfl ?_)  |  (refine vcall_pure (f := 11) (c2) rfl ?_)  |  (refine vcall_pure (f := 11) (c3) rfl ?_)  |  (refine vcall_pure (f := 11) (c4) rfl ?_)  |  (refine vcall_pure (f := 11) (c5) rfl ?_)  |  ((with_reducible apply Vl.mk (α := Int)); · with_reducible first | exact sh8 _ | exact sh12 _ | exact sh16 _ | exact sh20 _ | exact sh40 _ | exact a1 | exact k1 | exact k2)  |  ((with_reducible apply Ge.mk (α := SV)); · exact gq) | (with_reducible apply sd_draw; · kernel_rfl) | (apply Sd.mk; · exact aSd) | ((with_reducible apply Vl.mk (α := Int)); · exact aAr) | ((with_reducible first | apply Vl.mk (α := Bool) | apply Vl.mk (α := Nat) | apply Vl.mk (α := ByteArray) | apply Ge.mk (α := Row) | apply Ge.mk (α := SV) | apply Ge.mk (α := AV)); · exact rfl) | (refine And.intro rfl ?_) | ((with_reducible first | apply Vl.mk (α := List SV) | apply Vl.mk (α := Ef) | apply Vl.mk (α := TV) | apply Ge.mk (α := List SV) | apply Sg.mk | apply Sk.mk); · exact aCl) | ((first | apply Br.mk | apply Gd.mk) <;> (intro hb; first | exact aKl hb | (simp only [d1, d2, beq_iff_eq, bne_iff_ne, d3, d4, d5, d6, Int.not_lt, Int.not_le, ge_iff_le, gt_iff_lt, ne_eq, d7] at hb; first | (exfalso; omega) | skip) | skip)))); (all_goals (try (conv => whnf)))
  all_goals first
    | (rw [if_pos (by omega)]; exact fin_pure rfl rfl)
    | (rw [if_neg (by omega), if_pos (by omega)]; first | (rw [if_pos (by omega)]; exact fin_pure rfl rfl) | (rw [if_neg (by omega)]; exact fin_pure rfl rfl))
    | (rw [if_neg (by omega), if_neg (by omega), if_pos (by omega)]; exact fin_pure rfl rfl)
    | (rw [if_neg (by omega), if_neg (by omega), if_neg (by omega), if_pos (by omega)]; exact fin_pure rfl rfl)
    | (rw [if_neg (by omega), if_neg (by omega), if_neg (by omega), if_neg (by omega), if_pos (by omega)]; exact fin_pure rfl rfl)
    | (rw [if_neg (by omega), if_neg (by omega), if_neg (by omega), if_neg (by omega), if_neg (by omega), if_pos (by omega)]; exact fin_pure rfl rfl)
    | (rw [if_neg (by omega), if_neg (by omega), if_neg (by omega), if_neg (by omega), if_neg (by omega), if_neg (by omega), if_pos (by omega)]; exact fin_pure rfl rfl)
    | (rw [if_neg (by omega), if_neg (by omega), if_neg (by omega), if_neg (by omega), if_neg (by omega), if_neg (by omega), if_neg (by omega)]; exact fin_pure rfl rfl)
end Go.Proofs.Ytcaddlighhiepaa
