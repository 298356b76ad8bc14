/- micro: operations made from numbers. -/
import Derived.Test.YtpkbfpjkpiimiaaInsA
import Derived.Test.YtpkbfpjkpiimiaaMayD
namespace Go.Proofs.Ytpkbfpjkpiimiaa
open Go Go.RowKit
set_option linter.unusedSimpArgs false
set_option linter.unusedVariables false

def GoodI (i : List SV) (o a b c m : Int) : Prop := i = iv o a b c m ∧ opOk o ∧ 0 ≤ a ∧ a ≤ 15 ∧ 0 ≤ b ∧ b ≤ 15 ∧ 0 ≤ c ∧ c ≤ 15 ∧ -2147483648 ≤ m ∧ m ≤ 2147483647
theorem inst_good (n : Int) : ∃ a b c m : Int, GoodI (instV n) (io n) a b c m := by
  have ho := io_ok n
  have hk : 0 ≤ ik n ∧ ik n < 24 := by unfold ik; omega
  have hr : ∀ d, 0 ≤ ir n d ∧ ir n d < 6 := fun d => by unfold ir; omega
  have r1 := hr 256
  have r2 := hr 4096
  have r3 := hr 65536
  have hkm : 0 ≤ ik n * (mix n 1 / 1099511627776 % 2) ∧ ik n * (mix n 1 / 1099511627776 % 2) < 24 := by
    rcases (by omega : mix n 1 / 1099511627776 % 2 = 0 ∨ mix n 1 / 1099511627776 % 2 = 1) with e | e <;> rw [e] <;> omega
  unfold instV
  generalize io n = o at *
  generalize ik n = k at *
  generalize ir n 256 = A at *
  generalize ir n 4096 = B at *
  generalize ir n 65536 = C at *
  generalize k * (mix n 1 / 1099511627776 % 2) = kz at *
  repeat' split
  all_goals exact ⟨_, _, _, _, rfl, ho, by omega, by omega, by omega, by omega, by omega, by omega, by omega, by omega⟩
def ci (i : List SV) : Int := match i with | .int _ o :: _ => o | _ => 0
def badI (o kinds : Int) : Bool := decide (o > 24 ∧ kinds = 0 ∨ o > 36 ∧ kinds = 1)
def pk (n kinds : Int) : Nat → List SV → List SV
  | 0, i => i
  | f + 1, i => if badI (ci i) kinds = true then pk n kinds f (instV (mix n (39 - f))) else i
def picked (n kinds : Int) : List SV := if badI (ci (pk n kinds 39 (instV n))) kinds = true then iv 1 1 2 3 0 else pk n kinds 39 (instV n)
def micM (n : Int) : List SV → Mi
  | [.int _ o, .int _ a, .int _ b, .int _ c, .int _ m] => ⟨o, (a % 4).toNat, (b % 4).toNat, (c % 4).toNat, if n % 8 = 0 ∧ o > 13 then (mix n 40 % 4294967296).toNat else (m % 4294967296).toNat, 1⟩
  | _ => ⟨0, 0, 0, 0, 0, 0⟩
def microV (n kinds : Int) : Mi := micM n (picked n kinds)
theorem and7_i64 (x : Int) : bits .and .i64 x 7 = x % 8 := by
  have e : ((BitVec.ofInt 64 x) &&& (BitVec.ofInt 64 7)).toNat = (x % 8).toNat := by
    rw [BitVec.toNat_and, show (BitVec.ofInt 64 7).toNat = 2 ^ 3 - 1 from rfl, Nat.and_two_pow_sub_one_eq_mod, BitVec.toNat_ofInt]
    simp only [Nat.reducePow]
    omega
  show IntKind.i64.wrap (((BitVec.ofInt 64 x) &&& (BitVec.ofInt 64 7)).toNat : Int) = _
  rw [e, wi64 (by omega) (by omega)]; omega
theorem and32_i64 (x : Int) : bits .and .i64 x 4294967295 = x % 4294967296 := by
  have e : ((BitVec.ofInt 64 x) &&& (BitVec.ofInt 64 4294967295)).toNat = (x % 4294967296).toNat := by
    rw [BitVec.toNat_and, show (BitVec.ofInt 64 4294967295).toNat = 2 ^ 32 - 1 by simp [BitVec.toNat_ofInt], Nat.and_two_pow_sub_one_eq_mod, BitVec.toNat_ofInt]
    simp only [Nat.reducePow]
    omega
  show IntKind.i64.wrap (((BitVec.ofInt 64 x) &&& (BitVec.ofInt 64 4294967295)).toNat : Int) = _
  rw [e, wi64 (by omega) (by omega)]; omega
theorem mic_C {n kinds o a b c m : Int} (h : picked n kinds = iv o a b c m) (h1 : 0 ≤ a ∧ 0 ≤ b ∧ 0 ≤ c) {K : Int} (hK : K = if n % 8 = 0 ∧ o > 13 then mix n 40 % 4294967296 else m % 4294967296) :
    (microV n kinds).C = [.int .i64 o, .int .i64 (a % 4), .int .i64 (b % 4), .int .i64 (c % 4), .int .u32 K, .int .i64 1] := by
  unfold microV
  rw [h]
  simp only [micM, iv, Mi.C]
  generalize mix n 40 = X at *
  have e1 : ((a % 4).toNat : Int) = a % 4 := by omega
  have e2 : ((b % 4).toNat : Int) = b % 4 := by omega
  have e3 : ((c % 4).toNat : Int) = c % 4 := by omega
  have e4 : (((if n % 8 = 0 ∧ o > 13 then (X % 4294967296).toNat else (m % 4294967296).toNat) : Nat) : Int) = K := by
    rw [hK]; split <;> omega
  rw [e1, e2, e3, e4]
def mist (n kinds : Int) (k : Nat) (I : List SV) : St :=
  ⟨[(0, .a (.s (.int .i64 n))), (1, .a (.s (.int .i64 kinds))), (4, .a (.s (.ptr 0 0))), (5, .a (.s (.ptr 1 0))), (6, .a (.s (.int .i64 k)))],
   [(0, some ⟨true, 1, [.int .i64 0, .int .i64 0, .int .i64 0, .int .i64 0, .int .u32 0, .int .i64 0]⟩), (1, some ⟨true, 1, I⟩)], [0]⟩
set_option maxHeartbeats 600000 in
set_option maxRecDepth 100000 in
theorem micro_fn (n kinds : Int) : Fn Try.prog 24 [.s (.int .i64 n), .s (.int .i64 kinds)] [] (· = ⟨.a (.agg (microV n kinds).C), [], []⟩) := by
  have hi := inst_fn n
  obtain ⟨a, b, c, m, hg⟩ := inst_good n
  generalize io n = o at *
  have hI := hg.1
  rw [hI] at hi
  unfold iv at hi
  refine fn_of_vc mixed tys_ok _ _ Try.func24 (by kernel_rfl) rfl Try.ntmps24 (by rw [Try.results24]) rfl ?_; dsimp only [argTm, argHl, Nat.zero_add, Nat.reduceAdd, List.length_nil, List.length_cons]
  (repeat' ((conv => whnf); first | (refine vcall_pure (f := 44) (hi) rfl ?_) | (with_reducible apply sd_draw; · kernel_rfl) | (apply Sd.mk; · first | exact rfl | trivial | omega | (repeat' apply And.intro) <;> first | exact rfl | exact Nat.le_of_ble_eq_true rfl | omega | decide) | ((with_reducible apply Vl.mk (α := Int)); · (first | (with_reducible exact bits_keep _ _ _ _) | ((rewrite [tdiv_pos]); (focus (first | exact wi64 (by omega) (by omega) | exact wu32 (by omega) (by omega) | exact wi32 (by omega) (by omega))); omega) | exact tmod_pos (by omega) | exact wi64 (by omega) (by omega) | exact wu32 (by omega) (by omega) | exact wu32' _ | exact wu8 (by omega) (by omega) | exact wu64 (by omega) (by omega) | exact wi32 (by omega) (by omega) | rfl)) | ((with_reducible first | apply Vl.mk (α := Bool) | apply Vl.mk (α := Nat) | apply Vl.mk (α := ByteArray) | apply Ge.mk (α := Row) | apply Ge.mk (α := SV) | apply Ge.mk (α := AV)); · exact rfl) | (refine And.intro rfl ?_) | ((with_reducible first | apply Vl.mk (α := List SV) | apply Vl.mk (α := Ef) | apply Vl.mk (α := TV) | apply Ge.mk (α := List SV) | apply Sg.mk | apply Sk.mk); · (first | exact setAll_eq rfl | exact sg_all _ rfl | exact sk_all _ rfl rfl | ((first | apply sg_fc | apply sk_fc | (apply fc_eq; (conv => arg 1; whnf); apply fc_some) | apply fc_eq); (repeat' (first | exact fc_ren (wsv_scal _) | exact fc_ren (by assumption) | ((conv => arg 1; whnf); first | exact fc_nil | apply fc_cons | exact fc_int | exact fc_bool | exact fc_n | exact fc_ns | exact fc_ptr | exact fc_sl | exact fc_str | exact fc_unk | exact fc_fn | apply fc_s | apply fc_agg | apply fc_ta | apply fc_tup | exact fc_an | apply fc_ac | exact fc_tu | exact fc_nat | exact fc_bo | exact fc_none | apply fc_some | apply fc_pair | apply fc_row | apply fc_ef))); (all_goals exact rfl)) | ((dsimp only [Res.ef, renT, renA, renS, renN, nwN, upN, renRow, List.map_cons, List.map_nil, List.length_cons, List.length_nil]); first | done | exact rfl) | (dsimp only [setAll, List.set_cons_zero, List.set_cons_succ, List.cons_append, List.nil_append]; exact rfl) | exact rfl)) | ((first | apply Br.mk | apply Gd.mk) <;> (intro hb; first | (exact absurd hb (by decide)) | exact Bool.noConfusion (hb.symm.trans (by assumption) : true = false) | exact Bool.noConfusion (hb.symm.trans (by assumption) : false = true) | (simp only [decide_eq_true_eq, decide_eq_false_iff_not, beq_iff_eq, bne_iff_ne, beq_eq_false_iff_ne, bne_eq_false_iff_eq, Bool.not_eq_true', Bool.not_eq_false', Int.not_lt, Int.not_le, ge_iff_le, gt_iff_lt, ne_eq, Classical.not_not] at hb; first | (exfalso; omega) | skip) | skip)))); (all_goals (try (conv => whnf)))
  refine Lp.inv (fun mm σ => ∃ (k : Nat) (I : List SV) (o a b c m : Int), mm + k = 40 ∧ 1 ≤ k ∧ GoodI I o a b c m ∧ pk n kinds mm I = pk n kinds 39 (instV n) ∧ σ = mist n kinds k I) ?_ ?_
  · refine ⟨39, mist n kinds 1 (iv o a b c m), ?_, 1, iv o a b c m, o, a, b, c, m, by omega, by omega, ⟨rfl, hg.2⟩, by rw [hI], rfl⟩
    apply wk_of (m := [(0, some 65536), (1, some 131200)])
    · repeat' (first | exact tml_nil | apply tml_cons)
      all_goals first | exact tvm_a (avm_s (svm_same rfl)) | exact tvm_a (avm_s (svm_ptr rfl)) | exact tvm_a (avm_s (svm_sl rfl))
    · show HlS _ _ [] _
      refine hls_row (rowmt_mk rfl rfl rfl rfl (svsm_scal rfl)) ?_
      refine hls_row (rowmt_mk rfl rfl rfl rfl (svsm_scal rfl)) ?_
      exact hls_nil
    · rfl
  · clear hi hI hg
    rintro mm σ ⟨k, I, o, a, b, c, m, hmk, hk1, hg, hpk, rfl⟩
    obtain ⟨rfl, ho, hr⟩ := hg
    unfold mist
    have hi := inst_fn (mix n k)
    obtain ⟨a', b', c', m', hg'⟩ := inst_good (mix n k)
    have hgo := hg'.1
    generalize io (mix n k) = o' at *
    have hpk2 : mm = 40 - k := by omega
    have hex : (mm = 0 ∨ badI o kinds = false) → pk n kinds 39 (instV n) = iv o a b c m := fun h => by
      rw [← hpk]
      cases mm with
      | zero => rfl
      | succ f =>
        rcases h with h | h
        · omega
        · unfold pk; rw [show ci (iv o a b c m) = o from rfl, if_neg (by rw [h]; simp)]
    have hnx : 0 < mm → badI o kinds = true → pk n kinds (mm - 1) (iv o' a' b' c' m') = pk n kinds 39 (instV n) := fun h h2 => by
      rw [← hpk, ← hgo]
      cases mm with
      | zero => omega
      | succ f =>
        show pk n kinds f _ = pk n kinds (f + 1) _
        conv => rhs; unfold pk
        rw [show ci (iv o a b c m) = o from rfl, if_pos h2, show ((k : Nat) : Int) = 39 - (f : Int) by omega]
    have hpc : pk n kinds 39 (instV n) = iv o a b c m → picked n kinds = if badI o kinds = true then iv 1 1 2 3 0 else iv o a b c m := fun h => by
      unfold picked; rw [h]; rfl
    rw [hgo] at hi
    have hM := mix_fn n k
    have hM40 := mix_fn n 40
    have a7 := and7_i64 n
    have a32 := and32_i64 (mix n 40)
    have hmc1 := fun h K hK => @mic_C n kinds 1 1 2 3 0 h (by omega) K hK
    have hmc2 := fun h K hK => @mic_C n kinds o a b c m h (by omega) K hK
    have hr40 : 0 ≤ mix n 40 % 4294967296 ∧ mix n 40 % 4294967296 < 4294967296 := by omega
    generalize (microV n kinds).C = RC at *
    have q2 : IntKind.i64.wrap ((k : Int) + 1) = ((k + 1 : Nat) : Int) := by rw [wi64 (by omega) (by omega)]; omega
    generalize mix n 40 % 4294967296 = M40 at *
    clear hpk hpk2 hgo
    unfold iv at hi
    dsimp only [iv]
    (repeat' ((conv => whnf); first | ((with_reducible apply Vl.mk (α := Int)); · with_reducible first | exact q2 | exact a7 | exact a32)  |  (refine vcall_pure (f := 44) (hi) rfl ?_)  |  (refine vcall_pure (f := 45) (hM) rfl ?_)  |  (refine vcall_pure (f := 45) (hM40) rfl ?_) | (with_reducible apply sd_draw; · kernel_rfl) | (apply Sd.mk; · first | exact rfl | trivial | omega | (repeat' apply And.intro) <;> first | exact rfl | exact Nat.le_of_ble_eq_true rfl | omega | decide) | ((with_reducible apply Vl.mk (α := Int)); · (first | (with_reducible exact bits_keep _ _ _ _) | ((rewrite [tdiv_pos]); (focus (first | exact wi64 (by omega) (by omega) | exact wu32 (by omega) (by omega) | exact wi32 (by omega) (by omega))); omega) | exact tmod_pos (by omega) | exact wi64 (by omega) (by omega) | exact wu32 (by omega) (by omega) | exact wu32' _ | exact wu8 (by omega) (by omega) | exact wu64 (by omega) (by omega) | exact wi32 (by omega) (by omega) | rfl)) | ((with_reducible first | apply Vl.mk (α := Bool) | apply Vl.mk (α := Nat) | apply Vl.mk (α := ByteArray) | apply Ge.mk (α := Row) | apply Ge.mk (α := SV) | apply Ge.mk (α := AV)); · exact rfl) | (refine And.intro rfl ?_) | ((with_reducible first | apply Vl.mk (α := List SV) | apply Vl.mk (α := Ef) | apply Vl.mk (α := TV) | apply Ge.mk (α := List SV) | apply Sg.mk | apply Sk.mk); · (first | exact setAll_eq rfl | exact sg_all _ rfl | exact sk_all _ rfl rfl | ((first | apply sg_fc | apply sk_fc | (apply fc_eq; (conv => arg 1; whnf); apply fc_some) | apply fc_eq); (repeat' (first | exact fc_ren (wsv_scal _) | exact fc_ren (by assumption) | ((conv => arg 1; whnf); first | exact fc_nil | apply fc_cons | exact fc_int | exact fc_bool | exact fc_n | exact fc_ns | exact fc_ptr | exact fc_sl | exact fc_str | exact fc_unk | exact fc_fn | apply fc_s | apply fc_agg | apply fc_ta | apply fc_tup | exact fc_an | apply fc_ac | exact fc_tu | exact fc_nat | exact fc_bo | exact fc_none | apply fc_some | apply fc_pair | apply fc_row | apply fc_ef))); (all_goals exact rfl)) | ((dsimp only [Res.ef, renT, renA, renS, renN, nwN, upN, renRow, List.map_cons, List.map_nil, List.length_cons, List.length_nil]); first | done | exact rfl) | (dsimp only [setAll, List.set_cons_zero, List.set_cons_succ, List.cons_append, List.nil_append]; exact rfl) | exact rfl)) | ((first | apply Br.mk | apply Gd.mk) <;> (intro hb; first | (exact absurd hb (by decide)) | exact Bool.noConfusion (hb.symm.trans (by assumption) : true = false) | exact Bool.noConfusion (hb.symm.trans (by assumption) : false = true) | (simp only [decide_eq_true_eq, decide_eq_false_iff_not, beq_iff_eq, bne_iff_ne, beq_eq_false_iff_ne, bne_eq_false_iff_eq, Bool.not_eq_true', Bool.not_eq_false', Int.not_lt, Int.not_le, ge_iff_le, gt_iff_lt, ne_eq, Classical.not_not] at hb; first | (exfalso; omega) | skip) | skip)))); (all_goals (try (conv => whnf)))
    all_goals first
      | (refine ⟨mm - 1, mist n kinds (k + 1) (iv o' a' b' c' m'), by omega, ?_, k + 1, _, o', a', b', c', m', by omega, by omega, ⟨rfl, hg'.2⟩, hnx (by omega) (by unfold badI; exact decide_eq_true (by omega)), rfl⟩
         apply wk_of (m := [(0, some 0), (1, some 1)])
         · repeat' (first | exact tml_nil | apply tml_cons)
           all_goals first | exact tvm_a (avm_s (svm_same rfl)) | exact tvm_a (avm_s (svm_ptr rfl)) | exact tvm_a (avm_s (svm_sl rfl))
         · show HlS _ _ [] _
           refine hls_row (rowmt_mk rfl rfl rfl rfl (svsm_scal rfl)) ?_
           refine hls_row (rowmt_mk rfl rfl rfl rfl (svsm_scal rfl)) ?_
           exact hls_nil
         · rfl)
      | (rw [hmc1 (by rw [hpc (hex (by first | (left; omega) | (right; unfold badI; exact decide_eq_false (by omega)))), if_pos (by unfold badI; exact decide_eq_true (by omega))]) _ (if_neg (by omega)).symm]; exact fin_pure rfl rfl)
      | (rw [hmc2 (by rw [hpc (hex (by first | (left; omega) | (right; unfold badI; exact decide_eq_false (by omega)))), if_neg (by unfold badI; rw [decide_eq_false (by omega)]; simp)]) _ (by first | exact (if_pos (by omega)).symm | exact (if_neg (by omega)).symm)]; exact fin_pure rfl rfl)
      | trace_state
end Go.Proofs.Ytpkbfpjkpiimiaa
