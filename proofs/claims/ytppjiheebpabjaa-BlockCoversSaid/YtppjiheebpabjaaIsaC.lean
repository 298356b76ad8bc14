/- Decoding. -/
import Derived.Test.YtppjiheebpabjaaIsaA
import Derived.Test.YtppjiheebpabjaaIsaV
namespace Go.Proofs.Ytppjiheebpabjaa
open Go Go.RowKit
set_option linter.unusedSimpArgs false
set_option linter.unusedVariables false

def kz (b : Bool) (x : Int) : Int := if b then x else 0
/-- What a word says. -/
def dOp (w : Nat) : Int := (w / 2 ^ 24 % 2 ^ 8 : Nat)
def dA (w : Nat) : Int := (w / 2 ^ 20 % 2 ^ 4 : Nat)
def dB (w : Nat) : Int := (w / 2 ^ 16 % 2 ^ 4 : Nat)
def dI (w : Nat) : Nat := w / 2 ^ 0 % 2 ^ 16
def dC (w : Nat) : Int := if useC (dOp w) then dI w else 0
def sx (x : Nat) : Int := if x < 32768 then x else x - 65536
def dM (w : Nat) : Int := if useC (dOp w) then 0 else if useLo (dOp w) < 0 then sx (dI w) else dI w
def dOk (w : Nat) : Bool := useOk (dOp w) && validB (dOp w) (dA w) (dB w) (dC w) (dM w)
theorem sx_i32 (x : Nat) (hx : x < 65536) : IntKind.i32.wrap ((sx16 x : Nat) : Int) = sx x := by
  unfold IntKind.wrap sx16 sx
  simp only [IntKind.signed, IntKind.bits, Bool.true_and, decide_eq_true_eq]
  by_cases h : x < 32768
  · rw [if_pos h, if_pos h, if_neg (by simp; omega)]; omega
  · rw [if_neg h, if_neg h, if_pos (by simp; omega)]; omega
set_option maxRecDepth 100000 in
theorem decode_fn (w : Nat) (hw : w < 4294967296) : Fn Try.prog 15 [.s (.int .u32 w)] [] (· = ⟨.tup [.agg (iv (kz (dOk w) (dOp w)) (kz (dOk w) (dA w)) (kz (dOk w) (dB w)) (kz (dOk w) (dC w)) (kz (dOk w) (dM w))), .s (.bool (dOk w))], [], []⟩) := by
  refine fn_of_vc mixed tys_ok _ _ Try.func15 (by kernel_rfl) rfl Try.ntmps15 (by rw [Try.results15]) rfl ?_; dsimp only [argTm, argHl, Nat.zero_add, Nat.reduceAdd, List.length_nil, List.length_cons]
  (repeat' ((conv => whnf); first | (refine vcall_pure (f := 34) (field_fn w 24 8 hw (by omega) (by omega) (by omega)) rfl ?_)  |  (refine vcall_pure (f := 34) (field_fn w 20 4 hw (by omega) (by omega) (by omega)) rfl ?_)  |  (refine vcall_pure (f := 34) (field_fn w 16 4 hw (by omega) (by omega) (by omega)) rfl ?_)  |  (refine vcall_pure (f := 34) (field_fn w 0 16 hw (by omega) (by omega) (by omega)) rfl ?_)  |  (refine vcall_pure (f := 35) (use_fn _) rfl ?_)  |  (refine vcall_pure (f := 31) (valid_fn _ _ _ _ _) rfl ?_)  |  (refine vcall_pure (f := 36) (sx16_fn _ (by omega)) rfl ?_)  |  ((with_reducible apply Vl.mk (α := Int)); · exact sx_i32 _ (by omega)) | (with_reducible apply sd_draw; · kernel_rfl) | (apply Sd.mk; · first | exact rfl | trivial | omega | (repeat' apply And.intro) <;> first | exact rfl | exact Nat.le_of_ble_eq_true rfl | omega | decide) | ((with_reducible apply Vl.mk (α := Int)); · (first | (with_reducible exact bits_keep _ _ _ _) | ((rewrite [tdiv_pos]); (focus (first | exact wi64 (by omega) (by omega) | exact wu32 (by omega) (by omega) | exact wi32 (by omega) (by omega))); omega) | exact tmod_pos (by omega) | exact wi64 (by omega) (by omega) | exact wu32 (by omega) (by omega) | exact wu32' _ | exact wu8 (by omega) (by omega) | exact wu64 (by omega) (by omega) | exact wi32 (by omega) (by omega) | rfl)) | ((with_reducible first | apply Vl.mk (α := Bool) | apply Vl.mk (α := Nat) | apply Vl.mk (α := ByteArray) | apply Ge.mk (α := Row) | apply Ge.mk (α := SV) | apply Ge.mk (α := AV)); · exact rfl) | (refine And.intro rfl ?_) | ((with_reducible first | apply Vl.mk (α := List SV) | apply Vl.mk (α := Ef) | apply Vl.mk (α := TV) | apply Ge.mk (α := List SV) | apply Sg.mk | apply Sk.mk); · (first | exact setAll_eq rfl | exact sg_all _ rfl | exact sk_all _ rfl rfl | ((first | apply sg_fc | apply sk_fc | (apply fc_eq; (conv => arg 1; whnf); apply fc_some) | apply fc_eq); (repeat' (first | exact fc_ren (wsv_scal _) | exact fc_ren (by assumption) | ((conv => arg 1; whnf); first | exact fc_nil | apply fc_cons | exact fc_int | exact fc_bool | exact fc_n | exact fc_ns | exact fc_ptr | exact fc_sl | exact fc_str | exact fc_unk | exact fc_fn | apply fc_s | apply fc_agg | apply fc_ta | apply fc_tup | exact fc_an | apply fc_ac | exact fc_tu | exact fc_nat | exact fc_bo | exact fc_none | apply fc_some | apply fc_pair | apply fc_row | apply fc_ef))); (all_goals exact rfl)) | ((dsimp only [Res.ef, renT, renA, renS, renN, nwN, upN, renRow, List.map_cons, List.map_nil, List.length_cons, List.length_nil]); first | done | exact rfl) | (dsimp only [setAll, List.set_cons_zero, List.set_cons_succ, List.cons_append, List.nil_append]; exact rfl) | exact rfl)) | ((first | apply Br.mk | apply Gd.mk) <;> (intro hb; first | (exact absurd hb (by decide)) | exact Bool.noConfusion (hb.symm.trans (by assumption) : true = false) | exact Bool.noConfusion (hb.symm.trans (by assumption) : false = true) | (simp only [decide_eq_true_eq, decide_eq_false_iff_not, beq_iff_eq, bne_iff_ne, beq_eq_false_iff_ne, bne_eq_false_iff_eq, Bool.not_eq_true', Bool.not_eq_false', Int.not_lt, Int.not_le, ge_iff_le, gt_iff_lt, ne_eq, Classical.not_not] at hb; first | (exfalso; omega) | skip) | skip)))); (all_goals (try (conv => whnf)))
  all_goals
    refine fin_pure rfl ?_
    try have hn : ¬ useLo ((w / 2 ^ 24 % 2 ^ 8 : Nat) : Int) < 0 := by omega
    simp only [mkRes, iv, kz, dOk, dOp, dA, dB, dC, dM, dI, Bool.true_and, Bool.false_and, if_true, if_false, Bool.false_eq_true, *]
    first
      | done
      | rfl
end Go.Proofs.Ytppjiheebpabjaa
