/- The memory and the card that the laws of the network card make out of their numbers. -/
import Derived.Test.YtmefbkfapeijgaaNicA
import Derived.Test.YtmefbkfapeijgaaDskG
namespace Go.Proofs.Ytmefbkfapeijgaa
open Go.RowKit

set_option maxRecDepth 100000 in
set_option maxHeartbeats 1000000 in
theorem words10 (n pages : Int) (w : World) (hp1 : -9223372036854775808 ≤ pages) (hp2 : pages ≤ 9223372036854775807) :
    Calls Try.prog 59 #[.int .i64 n, .int .i64 pages] w (WordsOut w) := by
  have hm0 := Int.emod_nonneg pages (show (6 : Int) ≠ 0 by omega)
  have hm1 := Int.emod_lt_of_pos pages (show (0 : Int) < 6 by omega)
  obtain ⟨q, hq⟩ : ∃ q, q = pages % 6 := ⟨_, rfl⟩
  rw [← hq] at hm0 hm1
  have HR := Lib.hid (fun W => (by rw [hq]; exact round_any _ _ W hp1 hp2 (by omega) (by omega) : Calls Try.prog 26 #[.int .i64 pages, .int .i64 6] W fun e w' => e = .returned (.int .i64 q) ∧ W = w'))
  clear hq hp1 hp2
  have e2 : newN (1 + q) = 32 * (1 + q.toNat) := by unfold newN; rw [if_pos (by omega)]; omega
  obtain ⟨m, hm⟩ : ∃ m, m = 32 * (1 + q.toNat) := ⟨_, rfl⟩
  have hm2 : 1 ≤ m := by omega
  have hm3 : m ≤ 192 := by omega
  have E2 := Lib.hid (e2.trans hm.symm)
  have HM := Lib.hid hm
  clear e2 hm
  go_enter Try.func59, Try.ntmps59
  go_wp2_with (first | (go_at_call 26; refine (HR.out _).mono ?_; rintro e w' ⟨rfl, rfl⟩) | (go_at_call 35; refine (rnew_any _ _).mono ?_; rintro e w1 ⟨A1, c1, rfl, ho, hb⟩; rw [E2.out] at ho ⊢; obtain ⟨g, rfl, hg1, hg2⟩ := row_get ho (by omega)))
  have hc1 : m ≤ c1 := by
    obtain ⟨_, _, hv, h1, _⟩ := row_shape ho
    injection hv with _ _ hv
    rw [hv]; exact h1
  have HO := Lib.hid ho
  have HB := Lib.hid hb
  clear ho hb
  go_loopw [6] (fun i wr => ∃ k : Nat, k ≤ m ∧ i = .int .i64 k ∧ ∃ us, wr.ownsRow w.heap.size 24 1 (.slice (some ⟨g, 0, none⟩) m c1) m (ws us) ∧ Wd us ∧ Below w.heap.size w wr) (fun i _ => m - (intOf i).toNat)
  case atStart => exact ⟨0, Nat.zero_le _, rfl, _, HO.out, Wd.rep _, HB.out⟩
  case round =>
    obtain ⟨k, hk, rfl, us, ho, hw, hb⟩ := hrel
    have hlu : us.length = m := by have := ho.1; simpa using this
    by_cases hlt : k < m
    · obtain ⟨y, e5, h5a, h5b⟩ : ∃ y, mix n k = y ∧ 0 ≤ y ∧ y ≤ 9223372036854775807 := ⟨_, rfl, mix_range _ _⟩
      have C5 := Lib.hid (fun W => (e5 ▸ mix_any n k W))
      clear e5 h5a h5b
      have hcx := (ho.cellAt k (by omega)).trans (ws_get us k (by omega))
      have hfx := ho.frozenAt k
      generalize us.getD k 0 = ox at hcx
      have HOr := Lib.hid ho
      have HBr := Lib.hid hb
      clear ho hlu hb
      obtain ⟨v, hv, hv2⟩ : ∃ v : Nat, bits BinOp.and IntKind.i64 y 4294967295 % 4294967296 = (v : Int) ∧ v < 4294967296 := ⟨(bits BinOp.and IntKind.i64 y 4294967295 % 4294967296).toNat, by omega, by omega⟩
      have Hv := Lib.hid hv
      clear hv
      go_wp2_with (go_at_call 37; refine (C5.out _).mono ?_; rintro e w' ⟨rfl, rfl⟩)
      rw [Hv.out]
      go_roundw
      case rel => exact ⟨k + 1, by omega, by go_num, us.set k v, (by rw [← ws_set]; exact (HOr.out.stored k _).1), hw.set _ _ hv2, (HBr.out).setCell (p := ⟨g, k, none⟩) hg1 _⟩
      case measure => simp [intOf]; omega
    · go_wp2
      go_ret
      exact ⟨_, _, _, us, rfl, hc1, hlu, hw, by rw [HM.out]; unfold pg; rw [if_pos (by omega)]; omega, by rw [HM.out]; unfold pg; rw [if_pos (by omega)]; omega, by rw [HM.out]; unfold pg; rw [if_pos (by omega)]; omega, ho, hb⟩


def NicOutp (w : World) (e : Ending) (w' : World) : Prop := ∃ n : Nic, e = .returned n.V ∧ n.Ok ∧ Below w.heap.size w w'
theorem nic_ex {w w' : World} {x1 x2 x3 x4 : Int} {po re : Bool} (h1 : 0 ≤ x1 ∧ x1 < 4294967296) (h2 : 0 ≤ x2 ∧ x2 < 4294967296) (h3 : 0 ≤ x3 ∧ x3 < 4294967296) (h4 : 0 ≤ x4 ∧ x4 < 4294967296)
    (hb : Below w.heap.size w w') : NicOutp w (.returned (.agg #[.int .u32 x1, .int .u32 x2, .bool po, .int .u32 x3, .bool re, .int .u32 x4])) w' := by
  refine ⟨⟨x1.toNat, x2.toNat, po, x3.toNat, re, x4.toNat⟩, ?_, ?_, hb⟩
  · rw [N_mk, Int.toNat_of_nonneg h1.1, Int.toNat_of_nonneg h2.1, Int.toNat_of_nonneg h3.1, Int.toNat_of_nonneg h4.1]
  · refine ⟨?_, ?_, ?_, ?_⟩ <;> simp only [] <;> omega
set_option maxRecDepth 100000 in
set_option maxHeartbeats 2000000 in
theorem shaped10 (n : Nic) (raw : Bool) (k : Int) (w : World) (ho : n.Ok) :
    Calls Try.prog 58 #[n.V, .bool raw, .int .i64 k] w (NicOutp w) := by
  have HO := Lib.hid ho
  obtain ⟨y, e5, h5a, h5b⟩ : ∃ y, mix k 12 = y ∧ 0 ≤ y ∧ y ≤ 9223372036854775807 := ⟨_, rfl, mix_range _ _⟩
  have C5 := Lib.hid (fun W => (e5 ▸ mix_any k 12 W))
  clear e5 ho
  obtain ⟨fr, ln, po, bu, re, go⟩ := n
  rw [N_mk]
  cases raw
  all_goals
    go_enter Try.func58, Try.ntmps58
    go_wp2_with (first | (go_at_call 37; refine (C5.out _).mono ?_; rintro e w' ⟨rfl, rfl⟩))
    all_goals first
      | (((try simp only [Exit.inBlock, Exit.then]); first | (refine bodyPost_ret (results_tmp rfl _ _ _) rfl ?_) | go_ret2 | go_ret3 | (refine bodyPost_ret (by simp [results, Try.results58, go_sem]; try with_reducible rfl) rfl ?_)); exact ⟨⟨fr, ln, po, bu, re, go⟩, rfl, HO.out, by (repeat' first | (with_reducible exact Below.refl _ _) | (with_reducible assumption) | (with_reducible refine Below.alloc ?_ ?_ _) | (with_reducible refine Below.drew ?_) | (with_reducible refine below_drewN' ?_ _) | (with_reducible refine Below.setCell ?_ ?_ _) | (first | (with_reducible exact Nat.le_refl _) | (with_reducible assumption) | omega | (simp; omega) | (simp; done)))⟩)
      | (((try simp only [Exit.inBlock, Exit.then]); first | (refine bodyPost_ret (results_tmp rfl _ _ _) rfl ?_) | go_ret2 | go_ret3 | (refine bodyPost_ret (by simp [results, Try.results58, go_sem]; try with_reducible rfl) rfl ?_)); exact nic_ex (by omega) (by omega) (by omega) (by omega) (by (repeat' first | (with_reducible exact Below.refl _ _) | (with_reducible assumption) | (with_reducible refine Below.alloc ?_ ?_ _) | (with_reducible refine Below.drew ?_) | (with_reducible refine below_drewN' ?_ _) | (with_reducible refine Below.setCell ?_ ?_ _) | (first | (with_reducible exact Nat.le_refl _) | (with_reducible assumption) | omega | (simp; omega) | (simp; done)))))
      | skip
end Go.Proofs.Ytmefbkfapeijgaa
