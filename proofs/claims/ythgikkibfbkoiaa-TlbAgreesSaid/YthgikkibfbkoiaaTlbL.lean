/- Results of Fill and Lookup for any walk; memory made of numbers. -/
import Derived.Test.YthgikkibfbkoiaaTlbK
import Derived.Test.YthgikkibfbkoiaaTlbJ
import Derived.Test.YthgikkibfbkoiaaTrcA
import Derived.Test.YthgikkibfbkoiaaSmwA
import Derived.Test.YthgikkibfbkoiaaMkA
namespace Go.Proofs.Ythgikkibfbkoiaa
open Go Go.RowKit
set_option linter.unusedSimpArgs false
set_option linter.unusedVariables false

def TB (t : List Te) : Prop := ∀ e ∈ t, e.p < 4294967296 ∧ e.f < 4294967296
theorem TB_nil : TB [] := fun e h => by cases h
def XB (xs : List Nat) (n : Nat) : Prop := xs.length = n ∧ ∀ y ∈ xs, y < 4294967296
theorem XB_set {xs : List Nat} {n i w : Nat} (h : XB xs n) (hw : w < 4294967296) : XB (xs.set i w) n :=
  ⟨by rw [List.length_set]; exact h.1, fun y hy => by rcases mem_set hy with h1 | h1; exact h.2 y h1; omega⟩
def fillT (t : List Te) (xs : List Nat) (n r va : Nat) (ac : Int) : List Te := if wlkOk xs n r va ac = true then keepT (va / 128) t [frsh (va / 128) (frW (wlkP xs r va)) (tchW (wlkP xs r va) ac)] else t
def fillX (xs : List Nat) (n r va : Nat) (ac : Int) : List Nat := if wlkOk xs n r va ac = true then xs.set (r * 32 + va / 128) (tchW (wlkP xs r va) ac) else xs
theorem fillT_B {t : List Te} {xs : List Nat} {n r va : Nat} {ac : Int} (h : TB t) (hva : va < 4294967296) : TB (fillT t xs n r va ac) := by
  unfold fillT
  split
  · intro e he
    rcases keepT_mem _ _ _ e he with h1 | h1
    · rw [List.mem_singleton] at h1
      subst h1
      have := frW_lt (wlkP xs r va)
      exact ⟨by show va / 128 < _; omega, by show frW _ < _; omega⟩
    · exact h e h1
  · exact h
theorem fillT_len {t : List Te} {xs : List Nat} {n r va : Nat} {ac : Int} (h : t.length ≤ 8) : (fillT t xs n r va ac).length ≤ 8 := by
  unfold fillT
  split
  · exact keepT_len _ _ _ (by show 1 ≤ 8; omega)
  · exact h
theorem fillT_len2 {t : List Te} {xs : List Nat} {n r va : Nat} {ac : Int} (h : t.length ≤ 20) : (fillT t xs n r va ac).length ≤ 20 := by
  unfold fillT
  split
  · have := keepT_len (va / 128) t [frsh (va / 128) (frW (wlkP xs r va)) (tchW (wlkP xs r va) ac)] (by show 1 ≤ 8; omega)
    omega
  · exact h
theorem fillX_B {xs : List Nat} {n r va : Nat} {ac : Int} (h : XB xs n) : XB (fillX xs n r va ac) n := by
  unfold fillX
  split
  · exact XB_set h (tchW_lt _ _ (getD_ltW h.2 _))
  · exact h
theorem tfill_fn (t : List Te) (N : Nat) (hN : t.length = N) (hN2 : N ≤ 1000000) (xs : List Nat) (n r va : Nat) (ac : Int) (hX : XB xs n) (hn : n < 4294967296) (hr : r < 4294967296) (hva : va < 4294967296) :
    Fn Try.prog 13 [.s (.sl 0 0 N), .s (.sl 1 0 n), .s (.int .u32 r), .s (.int .u32 va), .s (.int .i64 ac)] [⟨false, 4, tes t⟩, ⟨false, 1, wsv xs⟩]
      (· = ⟨.tup [.agg (wlkC xs n r va ac), .s (.sl 2 0 (fillT t xs n r va ac).length), .s (.sl 3 0 n)], [], [⟨true, 4, tes (fillT t xs n r va ac)⟩, ⟨true, 1, wsv (fillX xs n r va ac)⟩]⟩) := by
  cases hw : wlkOk xs n r va ac with
  | true =>
    have := tfill_ok t N hN hN2 xs n r va ac hX.1 hn hX.2 hr hva hw _ _ rfl rfl
    unfold fillT fillX
    rw [if_pos hw, if_pos hw]
    exact this
  | false =>
    have := tfill_no t N hN hN2 xs n r va ac hX.1 hn hX.2 hr hva hw
    unfold fillT fillX
    rw [if_neg (by rw [hw]; decide), if_neg (by rw [hw]; decide), hN]
    exact this
theorem rfill_fn (t : List Te) (N : Nat) (hN : t.length = N) (hN2 : N ≤ 1000000) (xs : List Nat) (n r va : Nat) (ac : Int) (hX : XB xs n) (hn : n < 4294967296) (hr : r < 4294967296) (hva : va < 4294967296) :
    Fn Try.prog 14 [.s (.sl 0 0 N), .s (.sl 1 0 n), .s (.int .u32 r), .s (.int .u32 va), .s (.int .i64 ac)] [⟨false, 4, tes t⟩, ⟨false, 1, wsv xs⟩]
      (· = ⟨.tup [.agg (wlkC xs n r va ac), .s (.sl 2 0 (fillT t xs n r va ac).length), .s (.sl 3 0 n)], [], [⟨true, 4, tes (fillT t xs n r va ac)⟩, ⟨true, 1, wsv (fillX xs n r va ac)⟩]⟩) := by
  cases hw : wlkOk xs n r va ac with
  | true =>
    have := rfill_ok t N hN hN2 xs n r va ac hX.1 hn hX.2 hr hva hw _ _ rfl rfl
    unfold fillT fillX
    rw [if_pos hw, if_pos hw]
    exact this
  | false =>
    have := rfill_no t N hN hN2 xs n r va ac hX.1 hn hX.2 hr hva hw
    unfold fillT fillX
    rw [if_neg (by rw [hw]; decide), if_neg (by rw [hw]; decide), hN]
    exact this
theorem idx_none (pg : Nat) : ∀ (t : List Te) (k : Nat), (¬ ∃ e ∈ t, e.p = pg) → idxT pg t k = -1
  | [], k, h => rfl
  | e :: l, k, h => by
    have h1 : e.p ≠ pg := fun h2 => h ⟨e, List.mem_cons_self, h2⟩
    unfold idxT
    rw [if_neg h1]
    exact idx_none pg l (k + 1) fun ⟨x, hx, h2⟩ => h ⟨x, List.mem_cons_of_mem _ hx, h2⟩
theorem look_both (t : List Te) (N : Nat) (hN : t.length = N) (hN2 : N ≤ 1000000) (hB : TB t) (pg : Nat) (ac : Int) : ∃ (f : Nat) (t' : List Te) (ok : Bool), f < 4294967296 ∧ t'.length = N ∧ TB t' ∧
    Fn Try.prog 10 [.s (.sl 0 0 N), .s (.int .u32 pg), .s (.int .i64 ac)] [⟨false, 4, tes t⟩] (· = ⟨.tup [.s (.int .u32 f), .s (.sl 1 0 N), .s (.bool ok)], [], [⟨true, 4, tes t'⟩]⟩) ∧
    Fn Try.prog 11 [.s (.sl 0 0 N), .s (.int .u32 pg), .s (.int .i64 ac)] [⟨false, 4, tes t⟩] (· = ⟨.tup [.s (.int .u32 f), .s (.sl 1 0 N), .s (.bool ok)], [], [⟨true, 4, tes t'⟩]⟩) := by
  by_cases h : ∃ e ∈ t, e.p = pg
  · obtain ⟨i, e, hi, he, hp⟩ := idx_found pg t 0 h
    rw [Nat.zero_add] at hi
    have hm := List.mem_of_getElem? he
    cases hq : tpmV e.w e.x ac with
    | true => exact ⟨e.f, frontT t i e, true, (hB e hm).2, by rw [front_len t i e he, hN], fun x hx => hB x ((front_mem t i e he x).1 hx), lookup_hit t N hN hN2 pg ac i e he hi hq, rlookup_hit t N hN hN2 pg ac i e he hi hq⟩
    | false => exact ⟨0, t, false, by omega, hN, hB, lookup_not t N hN hN2 pg ac i e he hi hq, rlookup_not t N hN hN2 pg ac i e he hi hq⟩
  · have hi := idx_none pg t 0 h
    exact ⟨0, t, false, by omega, hN, hB, lookup_none t N hN hN2 pg ac hi, rlookup_none t N hN hN2 pg ac hi⟩
theorem zer_rep : ∀ n, wsv (zer n) = List.replicate n (SV.int .u32 0)
  | 0 => rfl
  | n + 1 => by
    rw [List.replicate_succ, ← zer_rep n]; rfl
set_option maxRecDepth 100000 in
theorem newk_fn (k : Nat) (h1 : 1 ≤ k) (h2 : k ≤ 16) : Fn Try.prog 22 [.s (.int .i64 k)] [] (· = ⟨.a (.s (.sl 0 0 (k * 32))), [], [⟨true, 1, wsv (zer (k * 32))⟩]⟩) := by
  rw [zer_rep]
  have hz := zs_okW (k * 32)
  have hs : allScal (List.replicate (k * 32) (SV.int .u32 0)) = true := by rw [← zer_rep]; exact wsv_scal _
  have e1 : IntKind.i64.wrap ((k : Int) * 32) = ((k * 32 : Nat) : Int) := by rw [wi64 (by omega) (by omega)]; omega
  generalize List.replicate (k * 32) (SV.int .u32 0) = Z at *
  refine fn_of_vc mixed tys_ok _ _ Try.func22 (by kernel_rfl) rfl Try.ntmps22 (by rw [Try.results22]) rfl ?_; dsimp only [argTm, argHl, Nat.zero_add, Nat.reduceAdd, List.length_nil, List.length_cons]
  (repeat' ((conv => whnf); first | ((with_reducible apply Vl.mk (α := Int)); · with_reducible exact e1)  |  (refine Zs.mk Z hz ?_) | ((with_reducible apply Vl.mk (α := Nat)); · ((try simp only [tysz, tybz, Int.toNat_natCast, Int.toNat_zero, Int.toNat_one, Nat.zero_add, Nat.zero_mul, Nat.mul_one, Nat.one_mul, Nat.add_zero, Int.sub_zero, Option.getD_some, Option.getD_none, Int.toNat_natCast_add_one]); exact rfl)) | (with_reducible apply sd_draw; · kernel_rfl) | (apply Sd.mk; · first | exact rfl | trivial | omega | (repeat' apply And.intro) <;> first | exact rfl | exact Nat.le_of_ble_eq_true rfl | omega | decide) | ((with_reducible apply Vl.mk (α := Int)); · (first | (with_reducible exact bits_keep _ _ _ _) | ((rewrite [tdiv_pos]); (focus (first | exact wi64 (by omega) (by omega) | exact wu32 (by omega) (by omega) | exact wi32 (by omega) (by omega))); omega) | exact tmod_pos (by omega) | exact wi64 (by omega) (by omega) | exact wu32 (by omega) (by omega) | exact wu32' _ | exact wu8 (by omega) (by omega) | exact wu64 (by omega) (by omega) | exact wi32 (by omega) (by omega) | rfl)) | ((with_reducible first | apply Vl.mk (α := Bool) | apply Vl.mk (α := Nat) | apply Vl.mk (α := ByteArray) | apply Ge.mk (α := Row) | apply Ge.mk (α := SV) | apply Ge.mk (α := AV)); · exact rfl) | (refine And.intro rfl ?_) | ((with_reducible first | apply Vl.mk (α := List SV) | apply Vl.mk (α := Ef) | apply Vl.mk (α := TV) | apply Ge.mk (α := List SV) | apply Sg.mk | apply Sk.mk); · (first | exact setAll_eq rfl | exact sg_all _ rfl | exact sk_all _ rfl rfl | ((first | apply sg_fc | apply sk_fc | (apply fc_eq; (conv => arg 1; whnf); apply fc_some) | apply fc_eq); (repeat' (first | exact fc_ren (wsv_scal _) | exact fc_ren (by assumption) | ((conv => arg 1; whnf); first | exact fc_nil | apply fc_cons | exact fc_int | exact fc_bool | exact fc_n | exact fc_ns | exact fc_ptr | exact fc_sl | exact fc_str | exact fc_unk | exact fc_fn | apply fc_s | apply fc_agg | apply fc_ta | apply fc_tup | exact fc_an | apply fc_ac | exact fc_tu | exact fc_nat | exact fc_bo | exact fc_none | apply fc_some | apply fc_pair | apply fc_row | apply fc_ef))); (all_goals exact rfl)) | ((dsimp only [Res.ef, renT, renA, renS, renN, nwN, upN, renRow, List.map_cons, List.map_nil, List.length_cons, List.length_nil]); first | done | exact rfl) | (dsimp only [setAll, List.set_cons_zero, List.set_cons_succ, List.cons_append, List.nil_append]; exact rfl) | exact rfl)) | ((first | apply Br.mk | apply Gd.mk) <;> (intro hb; first | (exact absurd hb (by decide)) | exact Bool.noConfusion (hb.symm.trans (by assumption) : true = false) | exact Bool.noConfusion (hb.symm.trans (by assumption) : false = true) | (simp only [decide_eq_true_eq, decide_eq_false_iff_not, beq_iff_eq, bne_iff_ne, beq_eq_false_iff_ne, bne_eq_false_iff_eq, Bool.not_eq_true', Bool.not_eq_false', Int.not_lt, Int.not_le, ge_iff_le, gt_iff_lt, ne_eq, Classical.not_not] at hb; first | (exfalso; omega) | skip) | skip)) | (apply Sd.mk; · (repeat' apply And.intro) <;> (try simp only [tysz, tybz, Int.toNat_natCast, Int.toNat_zero, Int.toNat_one, Nat.zero_add, Nat.zero_mul, Nat.mul_one, Nat.one_mul, Nat.add_zero, Int.sub_zero, Option.getD_some, Option.getD_none, Int.toNat_natCast_add_one]) <;> first | exact rfl | omega))); (all_goals (try (conv => whnf)))
  all_goals first | (apply Fin.mk (m := [(0, some _)]); (focus exact rfl); (all_goals ((try (show HlS _ _ [] _)); first | ((repeat' (first | exact SVsM.nil | exact avsm_nil | exact svm_same rfl | exact svm_ptr rfl | exact svm_sl rfl | exact svm_slnil rfl | exact svsm_scal rfl | exact svsm_scal (wsv_scal _) | exact svsm_scal (by assumption) | exact hls_nil | apply SVsM.cons | apply tvm_a | apply tvm_tup | apply avm_agg | apply avm_s | apply avsm_cons | exact trivial | (refine hls_skip rfl ?_) | apply hls_none | apply hls_row | (refine rowmt_mk rfl rfl rfl rfl ?_) | exact rowmt_nil rfl rfl)); done) | exact rfl))) | trace_state
end Go.Proofs.Ythgikkibfbkoiaa
