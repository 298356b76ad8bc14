/- The functions of memory that make a list: New, a copy, a store. -/
import Derived.Test.YtmefbkfapeijgaaMemA
import Derived.Test.YtmefbkfapeijgaaOps
namespace Go.Proofs.Ytmefbkfapeijgaa
open Go.RowKit

theorem Try.infoU32 : (Try.prog.info? 24).map (fun i => (i.zero, i.size, i.bytes)) = some (some (.int .u32 0), 1, 4) := by kernel_rfl
theorem sizeU32 : (Try.prog.info? 24).map (·.size) = some 1 := by kernel_rfl
theorem ws_one (xs : List Nat) : ∀ u ∈ ws xs, u.oneCell' = true := by intro u hu; simp [ws] at hu; obtain ⟨x, _, rfl⟩ := hu; rfl

/-- What New makes. -/
def newN (p : Int) : Nat := if 1 ≤ p ∧ p ≤ 32 then 32 * p.toNat else 0

set_option maxHeartbeats 400000 in
theorem new_any (p : Int) (w : World) :
    Calls Try.prog 34 #[.int .i64 p] w fun e w' => ∃ A c, e = .returned (.slice A (newN p) c) ∧ w'.ownsRow w.heap.size 24 1 (.slice A (newN p) c) (newN p) (ws (List.replicate (newN p) 0)) ∧ Below w.heap.size w w' := by
  obtain ⟨i0, hi, hz0, hz1, hz2⟩ := info_parts Try.infoU32
  by_cases h1 : 1 ≤ p
  · by_cases h2 : p ≤ 32
    · have g1 : decide (p < 1) = false := by simp; omega
      have g2 : decide (32 < p) = false := by simp; omega
      go_enter Try.func34, Try.ntmps34
      go_wp2_with (at_make; refine wpList_make_rd _ rfl _ _ _ rfl w.heap.size _ i0 _ 4 Try.underlying22 hi hz0 hz1 hz2 rfl _ rfl rfl (by omega) (by omega) (by unfold maxLen; omega) (Nat.le_refl _) ?_; intro w1 ho hg)
      go_ret
      have e0 : newN p = (p * 32).toNat := by unfold newN; rw [if_pos ⟨h1, h2⟩]; omega
      rw [e0, ws_rep]
      exact ⟨_, _, rfl, ho, below_of_grown hg (Nat.le_refl _) (fun k h => by cases h)⟩
    · have g1 : decide (p < 1) = false := by simp; omega
      have g2 : decide (32 < p) = true := by simp; omega
      go_enter Try.func34, Try.ntmps34
      go_wp2_with fail
      go_ret
      have e0 : newN p = 0 := by unfold newN; rw [if_neg (by omega)]
      rw [e0]
      exact ⟨_, _, rfl, World.ownsRow_nil _ _ _ _, Below.refl _ _⟩
  · have g1 : decide (p < 1) = true := by simp; omega
    go_enter Try.func34, Try.ntmps34
    go_wp2
    go_ret
    have e0 : newN p = 0 := by unfold newN; rw [if_neg (by omega)]
    rw [e0]
    exact ⟨_, _, rfl, World.ownsRow_nil _ _ _ _, Below.refl _ _⟩

set_option maxHeartbeats 400000 in
theorem rnew_any (p : Int) (w : World) :
    Calls Try.prog 35 #[.int .i64 p] w fun e w' => ∃ A c, e = .returned (.slice A (newN p) c) ∧ w'.ownsRow w.heap.size 24 1 (.slice A (newN p) c) (newN p) (ws (List.replicate (newN p) 0)) ∧ Below w.heap.size w w' := by
  obtain ⟨i0, hi, hz0, hz1, hz2⟩ := info_parts Try.infoU32
  by_cases h1 : 1 ≤ p
  · by_cases h2 : p ≤ 32
    · have g1 : decide (p < 1) = false := by simp; omega
      have g2 : decide (32 < p) = false := by simp; omega
      go_enter Try.func35, Try.ntmps35
      go_wp2_with (at_make; refine wpList_make_rd _ rfl _ _ _ rfl w.heap.size _ i0 _ 4 Try.underlying22 hi hz0 hz1 hz2 rfl _ rfl rfl (by omega) (by omega) (by unfold maxLen; omega) (Nat.le_refl _) ?_; intro w1 ho hg)
      go_ret
      have e0 : newN p = (p * 32).toNat := by unfold newN; rw [if_pos ⟨h1, h2⟩]; omega
      rw [e0, ws_rep]
      exact ⟨_, _, rfl, ho, below_of_grown hg (Nat.le_refl _) (fun k h => by cases h)⟩
    · have g1 : decide (p < 1) = false := by simp; omega
      have g2 : decide (32 < p) = true := by simp; omega
      go_enter Try.func35, Try.ntmps35
      go_wp2_with fail
      go_ret
      have e0 : newN p = 0 := by unfold newN; rw [if_neg (by omega)]
      rw [e0]
      exact ⟨_, _, rfl, World.ownsRow_nil _ _ _ _, Below.refl _ _⟩
  · have g1 : decide (p < 1) = true := by simp; omega
    go_enter Try.func35, Try.ntmps35
    go_wp2
    go_ret
    have e0 : newN p = 0 := by unfold newN; rw [if_neg (by omega)]
    rw [e0]
    exact ⟨_, _, rfl, World.ownsRow_nil _ _ _ _, Below.refl _ _⟩

set_option maxHeartbeats 400000 in
theorem clone_any (A : Option Addr) (c : Nat) (xs : List Nat) (w : World) (hn : xs.length ≤ 35184372087808) (hr : Rd w w.heap.size A (ws xs)) :
    Calls Try.prog 92 #[.slice A xs.length c] w fun e w' => ∃ A' c', e = .returned (.slice A' xs.length c') ∧ w'.ownsRow w.heap.size 24 1 (.slice A' xs.length c') xs.length (ws xs) ∧ Below w.heap.size w w' := by
  obtain ⟨i0, hi, hz0, hz1, hz2⟩ := info_parts Try.infoU32
  rcases A with _ | ad
  · have h0 : xs = [] := by
      rcases xs with _ | ⟨x, xs⟩
      · rfl
      · obtain ⟨b, off, h, _⟩ := hr (by simp)
        cases h
    subst h0
    have heq := fun (W : World) => Lib.run_eql_slice_nil (P := Try.prog) W 22 24 none 0 c 0 0 Try.underlying22
    simp only [List.length_nil]
    clear hr hn hi hz0 hz1 hz2
    go_enter Try.func92, Try.ntmps92
    go_wp2_with fail
    go_ret
    exact ⟨_, _, rfl, World.ownsRow_nil _ _ _ _, Below.refl _ _⟩
  · have heq := fun (W : World) => Lib.run_eql_slice_nil (P := Try.prog) W 22 24 (some ad) xs.length c 0 0 Try.underlying22
    simp only [Option.isNone_some] at heq
    go_enter Try.func92, Try.ntmps92
    go_wp2_with (at_builtin; go_must (refine wpList_append_rd _ rfl _ _ _ rfl w.heap.size _ i0 _ 1 4 Try.underlying22 hi hz0 hz1 hz2 rfl (by omega) _ 0 [] rfl (World.ownsRow_made w #[] 0 (Nat.le_refl _) (by simp [maxLen]) rfl) _ _ xs.length c (ws xs) rfl (by simp) (fun h => by cases h) (hr.alloc (Nat.le_refl _) _) (ws_one xs) (by unfold maxLen; omega) (by omega) (by simp) ?_); intro v1 w1 ho hg _)
    obtain ⟨A', c', rfl, _, _⟩ := row_shape ho
    go_ret
    exact ⟨A', c', by simp, by simpa using ho, ((Below.refl _ _).alloc (Nat.le_refl _) _).grown hg (by simp) (fun k h => Nat.le_of_eq (Option.some.inj h))⟩

set_option maxHeartbeats 400000 in
theorem copy_any (A : Option Addr) (c : Nat) (xs : List Nat) (w : World) (hn : xs.length ≤ 35184372087808) (hr : Rd w w.heap.size A (ws xs)) :
    Calls Try.prog 94 #[.slice A xs.length c] w fun e w' => ∃ A' c', e = .returned (.slice A' xs.length c') ∧ w'.ownsRow w.heap.size 24 1 (.slice A' xs.length c') xs.length (ws xs) ∧ Below w.heap.size w w' := by
  obtain ⟨i0, hi, hz0, hz1, hz2⟩ := info_parts Try.infoU32
  go_enter Try.func94, Try.ntmps94
  go_wp2_with (first
    | (at_make; go_must (refine wpList_make_rd _ rfl _ _ _ rfl w.heap.size _ i0 _ 4 Try.underlying22 hi hz0 hz1 hz2 rfl _ rfl rfl (by omega) (by omega) (by unfold maxLen; omega) (Nat.le_refl _) ?_); intro w1 ho hg; have hb := below_of_grown hg (Nat.le_refl _) (fun k h => by cases h); rw [Int.toNat_natCast] at ho)
    | (refine wpList_copy_rd (o := ⟨some 9, _, _, _, _, _⟩) _ rfl (.tmp 7) (.tmp 8) 22 rfl 24 Try.underlying22 sizeU32 w.heap.size w.heap.size xs.length w.heap.size c A (List.replicate xs.length (.int .u32 0)) (ws xs) (by rw [ws_length]; rfl) (by rw [ws_length]; rfl) (by rw [ws_length]; exact ho) (hr.below hb (Nat.le_refl _)) (ws_one xs) ?_; intro w2 ho2 hg2))
  go_ret
  rw [ws_length] at ho2
  exact ⟨_, _, rfl, ho2, hb.trans (below_of_grown hg2 hb.size (fun k h => Nat.le_of_eq (Option.some.inj h)))⟩
end Go.Proofs.Ytmefbkfapeijgaa
