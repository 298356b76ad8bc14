/- The events that the laws make out of numbers. -/
import Derived.Test.YtmefbkfapeijgaaDskG
namespace Go.Proofs.Ytmefbkfapeijgaa
open Go.RowKit

/-- An event with few bytes. -/
def EvOut (w : World) (e : Ending) (w' : World) : Prop := ∃ (k : Int) (x : Nat) (l : List UInt8), e = .returned (.agg #[.int .i64 k, .int .u32 x, .string (str l)]) ∧ x < 4294967296 ∧ l.length ≤ 300 ∧ Below w.heap.size w w'
theorem ev_ex {w w' : World} {k x : Int} {s : ByteArray} (h0 : 0 ≤ x ∧ x < 4294967296) (hs : s.size ≤ 300) (hb : Below w.heap.size w w') : EvOut w (.returned (.agg #[.int .i64 k, .int .u32 x, .string s])) w' := by
  refine ⟨k, x.toNat, s.data.toList, ?_, by omega, by simpa using hs, hb⟩
  rw [Int.toNat_of_nonneg h0.1]; rfl
theorem data_int (n m : Int) (w : World) (h0 : 0 ≤ m) (h1 : m ≤ 200) :
    Calls Try.prog 39 #[.int .i64 n, .int .i64 m] w fun e w' => ∃ s : ByteArray, e = .returned (.string s) ∧ s.size ≤ 200 ∧ Below w.heap.size w w' := by
  obtain ⟨k, rfl⟩ : ∃ k : Nat, m = k := ⟨m.toNat, by omega⟩
  exact (data_any n k w (by omega)).mono fun e w' ⟨he, hb⟩ => ⟨_, he, by simp; omega, hb⟩
set_option maxRecDepth 100000 in
set_option maxHeartbeats 2000000 in
theorem event_any (n : Int) (w : World) : Calls Try.prog 83 #[.int .i64 n] w (EvOut w) := by
  obtain ⟨y, e5, h5a, h5b⟩ : ∃ y, mix n 2 = y ∧ 0 ≤ y ∧ y ≤ 9223372036854775807 := ⟨_, rfl, mix_range _ _⟩
  have C5 := Lib.hid (fun W => (e5 ▸ mix_any n 2 W))
  clear e5
  go_enter Try.func83, Try.ntmps83
  go_wp2_with (first | (go_at_call 37; refine (C5.out _).mono ?_; rintro e w' ⟨rfl, rfl⟩) | (go_at_call 39; refine (data_int _ _ _ (by omega) (by omega)).mono ?_; rintro e w1 ⟨s, rfl, hs, hb1⟩; have hz1 := hb1.size; apply bk_then (w.heap.size) hb1; (focus (repeat' first | (with_reducible assumption) | ((with_reducible apply Bk.new); (focus (simp; done))) | (with_reducible apply Bk.alloc) | (with_reducible apply Bk.set) | (with_reducible apply Bk.other) | (with_reducible apply Bk.drew) | (first | (with_reducible exact Nat.le_refl _) | (with_reducible assumption) | omega | (simp; omega) | (simp; done)) | (simp; omega))); intro hk1_0; have hc1_0 := hk1_0.arr; have hf1_0 := hk1_0.frz; have hl1_0 := hk1_0.lt; (try simp at hz1); replace hb1 : Below w.heap.size w w1 := Below.then (by (repeat' first | (with_reducible exact Below.refl _ _) | (with_reducible assumption) | (with_reducible refine Below.alloc ?_ ?_ _) | (with_reducible refine Below.drew ?_) | (with_reducible refine below_drewN' ?_ _) | (with_reducible refine Below.setCell ?_ ?_ _) | (first | (with_reducible exact Nat.le_refl _) | (with_reducible assumption) | omega | (simp; omega) | (simp; done)))) hb1))
  all_goals first
    | (((try simp only [Exit.inBlock, Exit.then]); first | (refine bodyPost_ret (results_tmp rfl _ _ _) rfl ?_) | go_ret2 | go_ret3 | (refine bodyPost_ret (by simp [results, Try.results83, go_sem]; try with_reducible rfl) rfl ?_)); exact ev_ex (by omega) (by first | decide | omega) (by (repeat' first | (with_reducible exact Below.refl _ _) | (with_reducible assumption) | (with_reducible refine Below.alloc ?_ ?_ _) | (with_reducible refine Below.drew ?_) | (with_reducible refine below_drewN' ?_ _) | (with_reducible refine Below.setCell ?_ ?_ _) | (first | (with_reducible exact Nat.le_refl _) | (with_reducible assumption) | omega | (simp; omega) | (simp; done)))))
    | (refine bodyPost_ret (by simp [results, Try.results83, go_sem, hc1_0]; try with_reducible rfl) rfl ?_; exact ev_ex (by omega) (by omega) (by (repeat' first | (with_reducible exact Below.refl _ _) | (with_reducible assumption) | (with_reducible refine Below.alloc ?_ ?_ _) | (with_reducible refine Below.drew ?_) | (with_reducible refine below_drewN' ?_ _) | (with_reducible refine Below.setCell ?_ ?_ _) | (first | (with_reducible exact Nat.le_refl _) | (with_reducible assumption) | omega | (simp; omega) | (simp; done)))))
    | skip
end Go.Proofs.Ytmefbkfapeijgaa
