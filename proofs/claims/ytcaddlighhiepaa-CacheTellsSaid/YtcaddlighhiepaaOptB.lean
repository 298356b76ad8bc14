/- Branches with known operands, folded. -/
import Derived.Test.YtcaddlighhiepaaFns
import Derived.Test.YtcaddlighhiepaaMkA
namespace Go.Proofs.Ytcaddlighhiepaa
open Go Go.RowKit
set_option linter.unusedSimpArgs false
set_option linter.unusedVariables false

theorem clo_scal {H : List Row} (h : ∀ r ∈ H, allScal r.cells = true) : Clo H := fun r hr s hs => by
  have := allScal_mem (h r hr) s hs
  cases s <;> simp [SV.scal] at this <;> trivial
def takI (o x y : Int) : Bool := if o = 40 then x == y else if o = 41 then x != y else if o = 42 then decide (IntKind.i32.wrap x < IntKind.i32.wrap y) else if o = 43 then decide (IntKind.i32.wrap x ≥ IntKind.i32.wrap y) else if o = 44 then decide (x < y) else decide (x ≥ y)
set_option maxRecDepth 100000 in
theorem otaken_fn (o x y : Int) : Fn Try.prog 78 [.s (.int .i64 o), .s (.int .u32 x), .s (.int .u32 y)] [] (· = ⟨.a (.s (.bool (takI o x y))), [], []⟩) := by
  refine fn_of_vc mixed tys_ok _ _ Try.func78 (by kernel_rfl) rfl Try.ntmps78 (by rw [Try.results78]) rfl ?_; dsimp only [argTm, argHl, Nat.zero_add, Nat.reduceAdd, List.length_nil, List.length_cons]
  (repeat' ((conv => whnf); first | ((with_reducible apply Vl.mk (α := Int)); · rfl) | (with_reducible apply sd_draw; · kernel_rfl) | (apply Sd.mk; · exact aSd) | ((with_reducible apply Vl.mk (α := Int)); · exact aAr) | ((with_reducible first | apply Vl.mk (α := Bool) | apply Vl.mk (α := Nat) | apply Vl.mk (α := ByteArray) | apply Ge.mk (α := Row) | apply Ge.mk (α := SV) | apply Ge.mk (α := AV)); · exact rfl) | (refine And.intro rfl ?_) | ((with_reducible first | apply Vl.mk (α := List SV) | apply Vl.mk (α := Ef) | apply Vl.mk (α := TV) | apply Ge.mk (α := List SV) | apply Sg.mk | apply Sk.mk); · exact aCl) | ((first | apply Br.mk | apply Gd.mk) <;> (intro hb; first | exact aKl hb | (simp only [d1, d2, beq_iff_eq, bne_iff_ne, d3, d4, d5, d6, Int.not_lt, Int.not_le, ge_iff_le, gt_iff_lt, ne_eq, d7] at hb; first | (exfalso; omega) | skip) | skip)))); (all_goals (try (conv => whnf)))
  all_goals first
    | (subst hb; exact fin_pure rfl rfl)
    | (refine fin_pure rfl ?_; simp only [mkRes]; unfold takI; rw [if_neg (by omega), if_neg (by omega), if_neg (by omega), if_neg (by omega), if_neg (by omega)])
set_option maxRecDepth 100000 in
theorem rtaken_fn (o x y : Int) : Fn Try.prog 72 [.s (.int .i64 o), .s (.int .u32 x), .s (.int .u32 y)] [] (· = ⟨.a (.s (.bool (takI o x y))), [], []⟩) := by
  refine fn_of_vc mixed tys_ok _ _ Try.func72 (by kernel_rfl) rfl Try.ntmps72 (by rw [Try.results72]) rfl ?_; dsimp only [argTm, argHl, Nat.zero_add, Nat.reduceAdd, List.length_nil, List.length_cons]
  (repeat' ((conv => whnf); first | ((with_reducible apply Vl.mk (α := Int)); · rfl) | (with_reducible apply sd_draw; · kernel_rfl) | (apply Sd.mk; · exact aSd) | ((with_reducible apply Vl.mk (α := Int)); · exact aAr) | ((with_reducible first | apply Vl.mk (α := Bool) | apply Vl.mk (α := Nat) | apply Vl.mk (α := ByteArray) | apply Ge.mk (α := Row) | apply Ge.mk (α := SV) | apply Ge.mk (α := AV)); · exact rfl) | (refine And.intro rfl ?_) | ((with_reducible first | apply Vl.mk (α := List SV) | apply Vl.mk (α := Ef) | apply Vl.mk (α := TV) | apply Ge.mk (α := List SV) | apply Sg.mk | apply Sk.mk); · exact aCl) | ((first | apply Br.mk | apply Gd.mk) <;> (intro hb; first | exact aKl hb | (simp only [d1, d2, beq_iff_eq, bne_iff_ne, d3, d4, d5, d6, Int.not_lt, Int.not_le, ge_iff_le, gt_iff_lt, ne_eq, d7] at hb; first | (exfalso; omega) | skip) | skip)))); (all_goals (try (conv => whnf)))
  all_goals first
    | (subst hb; exact fin_pure rfl rfl)
    | (refine fin_pure rfl ?_; simp only [mkRes]; unfold takI; rw [if_neg (by omega), if_neg (by omega), if_neg (by omega), if_neg (by omega), if_neg (by omega)])
def kt1 : List SV := [.bool true, .bool true, .bool true, .bool false, .bool false, .bool false, .bool false, .bool false, .bool false, .bool false, .bool false, .bool false, .bool false, .bool false, .bool false, .bool false, .int .u32 0]
def kt2 : List SV := [.int .u32 0, .int .u32 0, .int .u32 0, .int .u32 0, .int .u32 0, .int .u32 0, .int .u32 0, .int .u32 0, .int .u32 0, .int .u32 0, .int .u32 0, .int .u32 0, .int .u32 0]
set_option maxHeartbeats 1000000 in
set_option maxRecDepth 100000 in
theorem rewr_br (o x y K : Int) (ho : 40 ≤ o ∧ o ≤ 45) : Fn Try.prog 62 [.agg [.int .i64 o, .int .i64 1, .int .i64 2, .int .i64 0, .int .u32 K, .int .i64 1], .agg (kt1 ++ .int .u32 x :: .int .u32 y :: kt2)] [] (· = ⟨.a (.agg [.int .i64 48, .int .i64 0, .int .i64 0, .int .i64 0, .int .u32 (if takI o x y then K else 4), .int .i64 1]), [], []⟩) := by
  have ht := otaken_fn o x y
  generalize takI o x y = tk at *
  have e : o = 40 ∨ o = 41 ∨ o = 42 ∨ o = 43 ∨ o = 44 ∨ o = 45 := by omega
  cases tk
  all_goals
    rcases e with rfl | rfl | rfl | rfl | rfl | rfl
    all_goals
      refine fn_of_vc mixed tys_ok _ _ Try.func62 (by kernel_rfl) rfl Try.ntmps62 (by rw [Try.results62]) rfl ?_; dsimp only [argTm, argHl, Nat.zero_add, Nat.reduceAdd, List.length_nil, List.length_cons]
      (repeat' ((conv => whnf); first | ((first | apply Br.mk | apply Gd.mk) <;> (intro hb; first | exact aKl hb | (exfalso; revert hb; simp; done) | (simp only [d1, d2, beq_iff_eq, bne_iff_ne, d3, d4, d5, d6, Int.not_lt, Int.not_le, ge_iff_le, gt_iff_lt, ne_eq, d7] at hb; first | (exfalso; omega) | (exfalso; simp_all; done) | skip) | skip))  |  (refine vcall_pure (f := 78) (ht) rfl ?_) | (with_reducible apply sd_draw; · kernel_rfl) | (apply Sd.mk; · exact aSd) | ((with_reducible apply Vl.mk (α := Int)); · exact aAr) | ((with_reducible first | apply Vl.mk (α := Bool) | apply Vl.mk (α := Nat) | apply Vl.mk (α := ByteArray) | apply Ge.mk (α := Row) | apply Ge.mk (α := SV) | apply Ge.mk (α := AV)); · exact rfl) | (refine And.intro rfl ?_) | ((with_reducible first | apply Vl.mk (α := List SV) | apply Vl.mk (α := Ef) | apply Vl.mk (α := TV) | apply Ge.mk (α := List SV) | apply Sg.mk | apply Sk.mk); · exact aCl) | ((first | apply Br.mk | apply Gd.mk) <;> (intro hb; first | exact aKl hb | (simp only [d1, d2, beq_iff_eq, bne_iff_ne, d3, d4, d5, d6, Int.not_lt, Int.not_le, ge_iff_le, gt_iff_lt, ne_eq, d7] at hb; first | (exfalso; omega) | skip) | skip)))); (all_goals (try (conv => whnf)))
      all_goals exact fin_pure rfl rfl
def eqL : List SV → List SV → Bool
  | [], [] => true
  | .bool a :: l, .bool b :: m => (match a, b with | true, true => true | false, false => true | _, _ => false) && eqL l m
  | .int k a :: l, .int k' b :: m => kEq k k' && decide (a = b) && eqL l m
  | _, _ => false
theorem eqL_ok : ∀ {l m : List SV}, eqL l m = true → l = m
  | [], [], _ => rfl
  | .bool a :: l, .bool b :: m, h => by
    unfold eqL at h
    rw [Bool.and_eq_true] at h
    rw [eqL_ok h.2]
    cases a <;> cases b <;> simp at h <;> rfl
  | .int k a :: l, .int k' b :: m, h => by
    unfold eqL at h
    rw [Bool.and_eq_true, Bool.and_eq_true, decide_eq_true_eq] at h
    rw [eqL_ok h.2, h.1.2, kEq_ok h.1.1]
  | [], _ :: _, h => by simp [eqL] at h
  | .bool _ :: _, [], h => by simp [eqL] at h
  | .int _ _ :: _, [], h => by simp [eqL] at h
  | .bool _ :: _, .int _ _ :: _, h => by simp [eqL] at h
  | .int _ _ :: _, .bool _ :: _, h => by simp [eqL] at h
  | .bool _ :: _, .str _ :: _, h => by simp [eqL] at h
  | .bool _ :: _, .nil :: _, h => by simp [eqL] at h
  | .bool _ :: _, .nilsl :: _, h => by simp [eqL] at h
  | .bool _ :: _, .unk :: _, h => by simp [eqL] at h
  | .bool _ :: _, .ptr _ _ :: _, h => by simp [eqL] at h
  | .bool _ :: _, .sl _ _ _ :: _, h => by simp [eqL] at h
  | .bool _ :: _, .fn _ _ :: _, h => by simp [eqL] at h
  | .int _ _ :: _, .str _ :: _, h => by simp [eqL] at h
  | .int _ _ :: _, .nil :: _, h => by simp [eqL] at h
  | .int _ _ :: _, .nilsl :: _, h => by simp [eqL] at h
  | .int _ _ :: _, .unk :: _, h => by simp [eqL] at h
  | .int _ _ :: _, .ptr _ _ :: _, h => by simp [eqL] at h
  | .int _ _ :: _, .sl _ _ _ :: _, h => by simp [eqL] at h
  | .int _ _ :: _, .fn _ _ :: _, h => by simp [eqL] at h
  | .str _ :: _, _, h => by simp [eqL] at h
  | .nil :: _, _, h => by simp [eqL] at h
  | .nilsl :: _, _, h => by simp [eqL] at h
  | .unk :: _, _, h => by simp [eqL] at h
  | .ptr _ _ :: _, _, h => by simp [eqL] at h
  | .sl _ _ _ :: _, _, h => by simp [eqL] at h
  | .fn _ _ :: _, _, h => by simp [eqL] at h
def ctB (f : FuncId) (args : List AV) (H : List Row) : Option Res :=
  match Nat.beq f 62 with
  | false => none
  | true => match H with
    | _ :: _ => none
    | [] => match args with
      | [.agg [.int .i64 o, .int .i64 a, .int .i64 b, .int .i64 c, .int .u32 K, .int .i64 n], .agg k] => (match k.drop 17 with
        | .int .u32 x :: .int .u32 y :: r => okB (decide (40 ≤ o) && decide (o ≤ 45) && decide (a = 1) && decide (b = 2) && decide (c = 0) && decide (n = 1) && eqL (k.take 17) kt1 && eqL r kt2)
            (some ⟨.a (.agg [.int .i64 48, .int .i64 0, .int .i64 0, .int .i64 0, .int .u32 (if takI o x y then K else 4), .int .i64 1]), [], []⟩)
        | _ => none)
      | _ => none
theorem ctB_ok : ∀ f args H R, ctB f args H = some R → Fn Try.prog f args H (· = R) := by
  intro f args H R h
  unfold ctB at h
  split at h
  · cases h
  · rename_i hf
    obtain rfl := Nat.eq_of_beq_eq_true hf
    split at h
    · cases h
    · split at h
      · rename_i o a b c K n k
        split at h
        · rename_i x y r hk
          obtain ⟨h1, h2⟩ := okB_some h
          injection h2 with h2
          subst h2
          simp only [Bool.and_eq_true, decide_eq_true_eq] at h1
          obtain ⟨⟨⟨⟨⟨⟨⟨g1, g2⟩, rfl⟩, rfl⟩, rfl⟩, rfl⟩, g3⟩, g4⟩ := h1
          have e : k = kt1 ++ .int .u32 x :: .int .u32 y :: kt2 := by
            rw [← List.take_append_drop 17 k, hk, eqL_ok g3, eqL_ok g4]
          rw [e]
          exact rewr_br o x y K ⟨g1, g2⟩
        · cases h
      · cases h
noncomputable def ctBr : Ctr Try.prog := ⟨ctB, ctB_ok⟩
set_option maxRecDepth 1000000 in
theorem foldb_run40 (a b K : Int) : runF eqt tys false fns ctBr 200 20 43 [.agg [.int .u32 0, .int .i64 3, .sl 0 0 3]] [⟨false, 6, [.int .i64 24, .int .i64 1, .int .i64 0, .int .i64 0, .int .u32 a, .int .i64 1, .int .i64 24, .int .i64 2, .int .i64 0, .int .i64 0, .int .u32 b, .int .i64 1, .int .i64 40, .int .i64 1, .int .i64 2, .int .i64 0, .int .u32 K, .int .i64 1]⟩] = some ⟨.a (.agg [.int .u32 0, .int .i64 3, .sl 1 0 3]), [], [⟨true, 6, [.int .i64 24, .int .i64 1, .int .i64 0, .int .i64 0, .int .u32 a, .int .i64 1, .int .i64 24, .int .i64 2, .int .i64 0, .int .i64 0, .int .u32 b, .int .i64 1, .int .i64 48, .int .i64 0, .int .i64 0, .int .i64 0, .int .u32 (if takI 40 a b then K else 4), .int .i64 1]⟩]⟩ := by kernel_rfl
theorem foldb_fn40 (a b K : Int) : Fn Try.prog 43 [.agg [.int .u32 0, .int .i64 3, .sl 0 0 3]] [⟨false, 6, [.int .i64 24, .int .i64 1, .int .i64 0, .int .i64 0, .int .u32 a, .int .i64 1, .int .i64 24, .int .i64 2, .int .i64 0, .int .i64 0, .int .u32 b, .int .i64 1, .int .i64 40, .int .i64 1, .int .i64 2, .int .i64 0, .int .u32 K, .int .i64 1]⟩] (· = ⟨.a (.agg [.int .u32 0, .int .i64 3, .sl 1 0 3]), [], [⟨true, 6, [.int .i64 24, .int .i64 1, .int .i64 0, .int .i64 0, .int .u32 a, .int .i64 1, .int .i64 24, .int .i64 2, .int .i64 0, .int .i64 0, .int .u32 b, .int .i64 1, .int .i64 48, .int .i64 0, .int .i64 0, .int .i64 0, .int .u32 (if takI 40 a b then K else 4), .int .i64 1]⟩]⟩) := runF_ok mixed tys_ok 20 _ _ _ _ (clo_scal (fun r hr => by simp at hr; subst hr; rfl)) (foldb_run40 a b K)
set_option maxRecDepth 1000000 in
theorem foldb_run41 (a b K : Int) : runF eqt tys false fns ctBr 200 20 43 [.agg [.int .u32 0, .int .i64 3, .sl 0 0 3]] [⟨false, 6, [.int .i64 24, .int .i64 1, .int .i64 0, .int .i64 0, .int .u32 a, .int .i64 1, .int .i64 24, .int .i64 2, .int .i64 0, .int .i64 0, .int .u32 b, .int .i64 1, .int .i64 41, .int .i64 1, .int .i64 2, .int .i64 0, .int .u32 K, .int .i64 1]⟩] = some ⟨.a (.agg [.int .u32 0, .int .i64 3, .sl 1 0 3]), [], [⟨true, 6, [.int .i64 24, .int .i64 1, .int .i64 0, .int .i64 0, .int .u32 a, .int .i64 1, .int .i64 24, .int .i64 2, .int .i64 0, .int .i64 0, .int .u32 b, .int .i64 1, .int .i64 48, .int .i64 0, .int .i64 0, .int .i64 0, .int .u32 (if takI 41 a b then K else 4), .int .i64 1]⟩]⟩ := by kernel_rfl
theorem foldb_fn41 (a b K : Int) : Fn Try.prog 43 [.agg [.int .u32 0, .int .i64 3, .sl 0 0 3]] [⟨false, 6, [.int .i64 24, .int .i64 1, .int .i64 0, .int .i64 0, .int .u32 a, .int .i64 1, .int .i64 24, .int .i64 2, .int .i64 0, .int .i64 0, .int .u32 b, .int .i64 1, .int .i64 41, .int .i64 1, .int .i64 2, .int .i64 0, .int .u32 K, .int .i64 1]⟩] (· = ⟨.a (.agg [.int .u32 0, .int .i64 3, .sl 1 0 3]), [], [⟨true, 6, [.int .i64 24, .int .i64 1, .int .i64 0, .int .i64 0, .int .u32 a, .int .i64 1, .int .i64 24, .int .i64 2, .int .i64 0, .int .i64 0, .int .u32 b, .int .i64 1, .int .i64 48, .int .i64 0, .int .i64 0, .int .i64 0, .int .u32 (if takI 41 a b then K else 4), .int .i64 1]⟩]⟩) := runF_ok mixed tys_ok 20 _ _ _ _ (clo_scal (fun r hr => by simp at hr; subst hr; rfl)) (foldb_run41 a b K)
set_option maxRecDepth 1000000 in
theorem foldb_run42 (a b K : Int) : runF eqt tys false fns ctBr 200 20 43 [.agg [.int .u32 0, .int .i64 3, .sl 0 0 3]] [⟨false, 6, [.int .i64 24, .int .i64 1, .int .i64 0, .int .i64 0, .int .u32 a, .int .i64 1, .int .i64 24, .int .i64 2, .int .i64 0, .int .i64 0, .int .u32 b, .int .i64 1, .int .i64 42, .int .i64 1, .int .i64 2, .int .i64 0, .int .u32 K, .int .i64 1]⟩] = some ⟨.a (.agg [.int .u32 0, .int .i64 3, .sl 1 0 3]), [], [⟨true, 6, [.int .i64 24, .int .i64 1, .int .i64 0, .int .i64 0, .int .u32 a, .int .i64 1, .int .i64 24, .int .i64 2, .int .i64 0, .int .i64 0, .int .u32 b, .int .i64 1, .int .i64 48, .int .i64 0, .int .i64 0, .int .i64 0, .int .u32 (if takI 42 a b then K else 4), .int .i64 1]⟩]⟩ := by kernel_rfl
theorem foldb_fn42 (a b K : Int) : Fn Try.prog 43 [.agg [.int .u32 0, .int .i64 3, .sl 0 0 3]] [⟨false, 6, [.int .i64 24, .int .i64 1, .int .i64 0, .int .i64 0, .int .u32 a, .int .i64 1, .int .i64 24, .int .i64 2, .int .i64 0, .int .i64 0, .int .u32 b, .int .i64 1, .int .i64 42, .int .i64 1, .int .i64 2, .int .i64 0, .int .u32 K, .int .i64 1]⟩] (· = ⟨.a (.agg [.int .u32 0, .int .i64 3, .sl 1 0 3]), [], [⟨true, 6, [.int .i64 24, .int .i64 1, .int .i64 0, .int .i64 0, .int .u32 a, .int .i64 1, .int .i64 24, .int .i64 2, .int .i64 0, .int .i64 0, .int .u32 b, .int .i64 1, .int .i64 48, .int .i64 0, .int .i64 0, .int .i64 0, .int .u32 (if takI 42 a b then K else 4), .int .i64 1]⟩]⟩) := runF_ok mixed tys_ok 20 _ _ _ _ (clo_scal (fun r hr => by simp at hr; subst hr; rfl)) (foldb_run42 a b K)
set_option maxRecDepth 1000000 in
theorem foldb_run43 (a b K : Int) : runF eqt tys false fns ctBr 200 20 43 [.agg [.int .u32 0, .int .i64 3, .sl 0 0 3]] [⟨false, 6, [.int .i64 24, .int .i64 1, .int .i64 0, .int .i64 0, .int .u32 a, .int .i64 1, .int .i64 24, .int .i64 2, .int .i64 0, .int .i64 0, .int .u32 b, .int .i64 1, .int .i64 43, .int .i64 1, .int .i64 2, .int .i64 0, .int .u32 K, .int .i64 1]⟩] = some ⟨.a (.agg [.int .u32 0, .int .i64 3, .sl 1 0 3]), [], [⟨true, 6, [.int .i64 24, .int .i64 1, .int .i64 0, .int .i64 0, .int .u32 a, .int .i64 1, .int .i64 24, .int .i64 2, .int .i64 0, .int .i64 0, .int .u32 b, .int .i64 1, .int .i64 48, .int .i64 0, .int .i64 0, .int .i64 0, .int .u32 (if takI 43 a b then K else 4), .int .i64 1]⟩]⟩ := by kernel_rfl
theorem foldb_fn43 (a b K : Int) : Fn Try.prog 43 [.agg [.int .u32 0, .int .i64 3, .sl 0 0 3]] [⟨false, 6, [.int .i64 24, .int .i64 1, .int .i64 0, .int .i64 0, .int .u32 a, .int .i64 1, .int .i64 24, .int .i64 2, .int .i64 0, .int .i64 0, .int .u32 b, .int .i64 1, .int .i64 43, .int .i64 1, .int .i64 2, .int .i64 0, .int .u32 K, .int .i64 1]⟩] (· = ⟨.a (.agg [.int .u32 0, .int .i64 3, .sl 1 0 3]), [], [⟨true, 6, [.int .i64 24, .int .i64 1, .int .i64 0, .int .i64 0, .int .u32 a, .int .i64 1, .int .i64 24, .int .i64 2, .int .i64 0, .int .i64 0, .int .u32 b, .int .i64 1, .int .i64 48, .int .i64 0, .int .i64 0, .int .i64 0, .int .u32 (if takI 43 a b then K else 4), .int .i64 1]⟩]⟩) := runF_ok mixed tys_ok 20 _ _ _ _ (clo_scal (fun r hr => by simp at hr; subst hr; rfl)) (foldb_run43 a b K)
set_option maxRecDepth 1000000 in
theorem foldb_run44 (a b K : Int) : runF eqt tys false fns ctBr 200 20 43 [.agg [.int .u32 0, .int .i64 3, .sl 0 0 3]] [⟨false, 6, [.int .i64 24, .int .i64 1, .int .i64 0, .int .i64 0, .int .u32 a, .int .i64 1, .int .i64 24, .int .i64 2, .int .i64 0, .int .i64 0, .int .u32 b, .int .i64 1, .int .i64 44, .int .i64 1, .int .i64 2, .int .i64 0, .int .u32 K, .int .i64 1]⟩] = some ⟨.a (.agg [.int .u32 0, .int .i64 3, .sl 1 0 3]), [], [⟨true, 6, [.int .i64 24, .int .i64 1, .int .i64 0, .int .i64 0, .int .u32 a, .int .i64 1, .int .i64 24, .int .i64 2, .int .i64 0, .int .i64 0, .int .u32 b, .int .i64 1, .int .i64 48, .int .i64 0, .int .i64 0, .int .i64 0, .int .u32 (if takI 44 a b then K else 4), .int .i64 1]⟩]⟩ := by kernel_rfl
theorem foldb_fn44 (a b K : Int) : Fn Try.prog 43 [.agg [.int .u32 0, .int .i64 3, .sl 0 0 3]] [⟨false, 6, [.int .i64 24, .int .i64 1, .int .i64 0, .int .i64 0, .int .u32 a, .int .i64 1, .int .i64 24, .int .i64 2, .int .i64 0, .int .i64 0, .int .u32 b, .int .i64 1, .int .i64 44, .int .i64 1, .int .i64 2, .int .i64 0, .int .u32 K, .int .i64 1]⟩] (· = ⟨.a (.agg [.int .u32 0, .int .i64 3, .sl 1 0 3]), [], [⟨true, 6, [.int .i64 24, .int .i64 1, .int .i64 0, .int .i64 0, .int .u32 a, .int .i64 1, .int .i64 24, .int .i64 2, .int .i64 0, .int .i64 0, .int .u32 b, .int .i64 1, .int .i64 48, .int .i64 0, .int .i64 0, .int .i64 0, .int .u32 (if takI 44 a b then K else 4), .int .i64 1]⟩]⟩) := runF_ok mixed tys_ok 20 _ _ _ _ (clo_scal (fun r hr => by simp at hr; subst hr; rfl)) (foldb_run44 a b K)
set_option maxRecDepth 1000000 in
theorem foldb_run45 (a b K : Int) : runF eqt tys false fns ctBr 200 20 43 [.agg [.int .u32 0, .int .i64 3, .sl 0 0 3]] [⟨false, 6, [.int .i64 24, .int .i64 1, .int .i64 0, .int .i64 0, .int .u32 a, .int .i64 1, .int .i64 24, .int .i64 2, .int .i64 0, .int .i64 0, .int .u32 b, .int .i64 1, .int .i64 45, .int .i64 1, .int .i64 2, .int .i64 0, .int .u32 K, .int .i64 1]⟩] = some ⟨.a (.agg [.int .u32 0, .int .i64 3, .sl 1 0 3]), [], [⟨true, 6, [.int .i64 24, .int .i64 1, .int .i64 0, .int .i64 0, .int .u32 a, .int .i64 1, .int .i64 24, .int .i64 2, .int .i64 0, .int .i64 0, .int .u32 b, .int .i64 1, .int .i64 48, .int .i64 0, .int .i64 0, .int .i64 0, .int .u32 (if takI 45 a b then K else 4), .int .i64 1]⟩]⟩ := by kernel_rfl
theorem foldb_fn45 (a b K : Int) : Fn Try.prog 43 [.agg [.int .u32 0, .int .i64 3, .sl 0 0 3]] [⟨false, 6, [.int .i64 24, .int .i64 1, .int .i64 0, .int .i64 0, .int .u32 a, .int .i64 1, .int .i64 24, .int .i64 2, .int .i64 0, .int .i64 0, .int .u32 b, .int .i64 1, .int .i64 45, .int .i64 1, .int .i64 2, .int .i64 0, .int .u32 K, .int .i64 1]⟩] (· = ⟨.a (.agg [.int .u32 0, .int .i64 3, .sl 1 0 3]), [], [⟨true, 6, [.int .i64 24, .int .i64 1, .int .i64 0, .int .i64 0, .int .u32 a, .int .i64 1, .int .i64 24, .int .i64 2, .int .i64 0, .int .i64 0, .int .u32 b, .int .i64 1, .int .i64 48, .int .i64 0, .int .i64 0, .int .i64 0, .int .u32 (if takI 45 a b then K else 4), .int .i64 1]⟩]⟩) := runF_ok mixed tys_ok 20 _ _ _ _ (clo_scal (fun r hr => by simp at hr; subst hr; rfl)) (foldb_run45 a b K)
end Go.Proofs.Ytcaddlighhiepaa
