/- Data: a string made from a number. -/
import Derived.Test.YtmefbkfapeijgaaMemE
import Derived.Test.YtmefbkfapeijgaaMake
namespace Go.Proofs.Ytmefbkfapeijgaa
open Go.RowKit

/-- The bytes of Data. -/
def dat (n : Int) (k : Nat) : List UInt8 := (List.range k).map fun i => UInt8.ofNat (mix n ((i / 9 : Nat) : Int)).toNat
@[simp] theorem dat_length (n : Int) (k : Nat) : (dat n k).length = k := by simp [dat]
theorem dat_step (n : Int) (k : Nat) : dat n (k + 1) = dat n k ++ [UInt8.ofNat (mix n ((k / 9 : Nat) : Int)).toNat] := by simp [dat, List.range_succ]
theorem byte_cell (y : Int) (h0 : 0 ≤ y) : bc [UInt8.ofNat y.toNat] = [Value.int IntKind.u8 (y % 256)] := by
  simp only [bc, List.map_cons, List.map_nil, UInt8.toNat_ofNat']
  congr 2; omega

set_option maxRecDepth 100000 in
set_option maxHeartbeats 1000000 in
theorem data_any (n : Int) (m : Nat) (w : World) (hm : m ≤ 1048576) :
    Calls Try.prog 39 #[.int .i64 n, .int .i64 m] w fun e w' => e = .returned (.string (str (dat n m))) ∧ Below w.heap.size w w' := by
  obtain ⟨i0, hi, hz0, hz1, hz2⟩ := info_parts Try.infoU8
  go_enter Try.func39, Try.ntmps39
  go_wp2
  go_loopw [5, 6] (fun v i wr => ∃ k : Nat, k ≤ m ∧ i = .int .i64 k ∧ ∃ A1 c1, v = .slice A1 k c1 ∧ wr.ownsRow w.heap.size 5 1 (.slice A1 k c1) k (bc (dat n k)) ∧ Below w.heap.size w wr) (fun _ i _ => m - (intOf i).toNat)
  case atStart => exact ⟨0, Nat.zero_le _, rfl, _, _, rfl, World.ownsRow_nil _ _ _ _, Below.refl _ _⟩
  case round =>
    obtain ⟨k, hk, rfl, A1, c1, rfl, ho, hb⟩ := hrel
    by_cases hlt : k < m
    · have HS := Lib.hid (dat_step n k)
      obtain ⟨y, e, ha, hbb⟩ : ∃ y, mix n ((k / 9 : Nat) : Int) = y ∧ 0 ≤ y ∧ y ≤ 9223372036854775807 := ⟨_, rfl, mix_range _ _⟩
      have CM := Lib.hid (fun W => e ▸ mix_any n ((k / 9 : Nat) : Int) W)
      rw [e] at HS
      clear e
      have HY := Lib.hid (byte_cell y ha)
      have HOr := Lib.hid ho
      have HBr := Lib.hid hb
      have hsz := hb.size
      clear ho hb
      go_wp2_with fail
      rw [show (k : Int) / 9 = ((k / 9 : Nat) : Int) by omega]
      refine (CM.out _).mono ?_
      rintro e w' ⟨rfl, rfl⟩
      go_wp2_with (at_builtin; go_must (refine wpList_append_rd _ rfl _ _ _ rfl w.heap.size _ i0 _ 1 1 Try.underlying37 hi hz0 hz1 hz2 rfl (by omega) _ k _ rfl (HOr.out.alloc _) _ _ 1 1 _ rfl rfl (fun h => by cases h) (Rd.new _ _ _ _) (ints_one1 _ _) (by unfold maxLen; omega) (by omega) (by simp; omega) ?_); intro v2 w2 ho2 hg2 _; have HO2 := Lib.hid ho2; have HG2 := Lib.hid hg2; clear ho2 hg2)
      obtain ⟨A2, c2, rfl, _, _⟩ := row_shape HO2.out
      go_roundw
      case rel => exact ⟨k + 1, by omega, by go_num, A2, c2, rfl, by rw [HS.out, bc_append, HY.out]; exact HO2.out, (HBr.out.alloc hsz _).grown HG2.out (by simp; omega) (fun g h => (HOr.out.lt g h).1)⟩
      case measure => simp [intOf]; omega
    · obtain rfl : k = m := by omega
      have hconv := run_string_row (src := 37) (dst := 9) Try.underlying37 Try.underlying5 Try.underlying9 ho
      have HBr := Lib.hid hb
      clear ho hb
      go_wp2
      go_ret
      exact ⟨rfl, HBr.out⟩
end Go.Proofs.Ytmefbkfapeijgaa
