/- Hashes of words, and the pages that differ, by the program and by the reference. -/
import Derived.Test.YtmefbkfapeijgaaMemE
import Derived.Test.YtmefbkfapeijgaaMemB
namespace Go.Proofs.Ytmefbkfapeijgaa
open Go.RowKit

/-- One step of the hash, as the walk spells it; the hash of bytes. -/
def hst (h : Int) (b : UInt8) : Int := IntKind.u64.wrap (bits BinOp.xor IntKind.u64 h (b.toNat : Int) * 1099511628211)
def hsh (h : Int) (l : List UInt8) : Int := l.foldl hst h
theorem hsh_append (h : Int) (l m : List UInt8) : hsh h (l ++ m) = hsh (hsh h l) m := by simp [hsh]
theorem hsh_step (h : Int) (l : List UInt8) (k : Nat) (hk : k < l.length) : hsh h (l.take (k + 1)) = hst (hsh h (l.take k)) l[k] := by
  rw [List.take_succ_eq_append_getElem hk, hsh_append]; rfl
theorem str_get (l : List UInt8) (i : Nat) (h : i < (str l).size) : (str l)[i] = l[i]'(by simpa using h) := rfl

set_option maxRecDepth 100000 in
set_option maxHeartbeats 1000000 in
theorem hash_any (h : Int) (l : List UInt8) (w : World) (hl : l.length ≤ 9223372036854775807) :
    Calls Try.prog 101 #[.int .u64 h, .string (str l)] w fun e w' => e = .returned (.int .u64 (hsh h l)) ∧ w = w' := by
  go_enter Try.func101, Try.ntmps101
  go_wp2
  go_loop [0, 8] (fun v i => ∃ k : Nat, k ≤ l.length ∧ i = .int .i64 k ∧ v = .int .u64 (hsh h (l.take k))) (fun _ i => l.length - (intOf i).toNat)
  case atStart => exact ⟨0, Nat.zero_le _, rfl, rfl⟩
  case round =>
    obtain ⟨k, hk, rfl, rfl⟩ := hrel
    by_cases hlt : k < l.length
    · have HS := Lib.hid (hsh_step h l k hlt)
      have hb := (l[k]).toNat_lt
      have hb2 : ((str l)[k]'(by simpa using hlt)).toNat < 256 := by rw [str_get]; omega
      go_wp2
      go_round
      case rel => exact ⟨k + 1, by omega, by go_num, by rw [HS.out]; rfl⟩
      case measure => simp [intOf]; omega
    · obtain rfl : k = l.length := by omega
      go_wp2
      go_ret
      exact ⟨by simp, rfl⟩
set_option maxRecDepth 100000 in
set_option maxHeartbeats 1000000 in
theorem rhash_any (h : Int) (l : List UInt8) (w : World) (hl : l.length ≤ 9223372036854775807) :
    Calls Try.prog 102 #[.int .u64 h, .string (str l)] w fun e w' => e = .returned (.int .u64 (hsh h l)) ∧ w = w' := by
  go_enter Try.func102, Try.ntmps102
  go_wp2
  go_loop [0, 5] (fun v i => ∃ k : Nat, k ≤ l.length ∧ i = .int .i64 k ∧ v = .int .u64 (hsh h (l.take k))) (fun _ i => l.length - (intOf i).toNat)
  case atStart => exact ⟨0, Nat.zero_le _, rfl, rfl⟩
  case round =>
    obtain ⟨k, hk, rfl, rfl⟩ := hrel
    by_cases hlt : k < l.length
    · have HS := Lib.hid (hsh_step h l k hlt)
      have hb := (l[k]).toNat_lt
      have hb2 : ((str l)[k]'(by simpa using hlt)).toNat < 256 := by rw [str_get]; omega
      go_wp2
      go_round
      case rel => exact ⟨k + 1, by omega, by go_num, by rw [HS.out]; rfl⟩
      case measure => simp [intOf]; omega
    · obtain rfl : k = l.length := by omega
      go_wp2
      go_ret
      exact ⟨by simp, rfl⟩

/-- What a hash starts from. -/
def h0 : Int := 14695981039346656037
set_option maxRecDepth 100000 in
set_option maxHeartbeats 1000000 in
theorem memhash_any (A : Option Addr) (c : Nat) (xs : List Nat) (w : World) (hn : xs.length ≤ 1048576) (hr : Rd w w.heap.size A (ws xs)) (hw : Wd xs) :
    Calls Try.prog 43 #[.slice A xs.length c] w fun e w' => e = .returned (.int .u64 (hsh h0 (bytesOf xs))) ∧ Below w.heap.size w w' := by
  have hb : (bytesOf xs).length ≤ 9223372036854775807 := by rw [bytesOf_length]; omega
  go_enter Try.func43, Try.ntmps43
  go_wp2_with fail
  refine (text_any A c xs _ hn hr hw).mono ?_
  rintro e w1 ⟨rfl, hb1⟩
  go_wp2_with fail
  refine (hash_any _ _ _ hb).mono ?_
  rintro e w2 ⟨rfl, rfl⟩
  go_wp2_with fail
  go_ret
  exact ⟨rfl, hb1⟩

set_option maxRecDepth 100000 in
set_option maxHeartbeats 1000000 in
theorem hashwords_any (A : Option Addr) (c : Nat) (xs : List Nat) (w : World) (hn : xs.length ≤ 1048576) (hr : Rd w w.heap.size A (ws xs)) :
    Calls Try.prog 44 #[.slice A xs.length c] w fun e w' => e = .returned (.int .u64 (hsh h0 (bytesOf xs))) ∧ Below w.heap.size w w' := by
  have HR := Lib.hid hr
  clear hr
  go_enter Try.func44, Try.ntmps44
  go_wp2
  go_loopw [3, 4] (fun v i wr => ∃ k : Nat, k ≤ xs.length ∧ i = .int .i64 k ∧ v = .int .u64 (hsh h0 (bytesOf (xs.take k))) ∧ Below w.heap.size w wr) (fun _ i _ => xs.length - (intOf i).toNat)
  case atStart => exact ⟨0, Nat.zero_le _, rfl, rfl, Below.refl _ _⟩
  case round =>
    obtain ⟨k, hk, rfl, rfl, hb⟩ := hrel
    by_cases hlt : k < xs.length
    · obtain ⟨b, off, rfl, hb1, hcell⟩ := (HR.out.below hb (Nat.le_refl _)).at_ k (by simpa using hlt)
      rw [ws_get _ _ hlt] at hcell
      have HS := Lib.hid (show hsh h0 (bytesOf (xs.take (k + 1))) = hsh (hsh h0 (bytesOf (xs.take k))) (b4 (xs.getD k 0)) by rw [bytesOf_step _ _ hlt, hsh_append])
      generalize xs.getD k 0 = x at hcell HS
      have HB := Lib.hid hb
      have hsz := hb.size
      clear hb
      go_wp2_with fail
      refine (low4 _ _).mono ?_
      rintro e w2 ⟨rfl, hb2⟩
      have HB2 := Lib.hid (HB.out.trans (hb2.mono hsz))
      clear hb2
      go_wp2_with fail
      refine (rhash_any _ _ _ (by simp [b4])).mono ?_
      rintro e w3 ⟨rfl, rfl⟩
      go_wp2_with fail
      go_roundw
      case rel => exact ⟨k + 1, by omega, by go_num, by rw [HS.out], HB2.out⟩
      case measure => simp [intOf]; omega
    · obtain rfl : k = xs.length := by omega
      have HB := Lib.hid hb
      clear hb
      go_wp2
      go_ret
      exact ⟨by simp, HB.out⟩

set_option maxRecDepth 100000 in
set_option maxHeartbeats 1000000 in
theorem sameints_any (A D : Option Addr) (c d : Nat) (xs : List Int) (w : World) (hn : xs.length ≤ 1048576) (hr : Rd w w.heap.size A (zs xs)) (hs : Rd w w.heap.size D (zs xs)) :
    Calls Try.prog 45 #[.slice A xs.length c, .slice D xs.length d] w fun e w' => e = .returned (.bool true) ∧ Below w.heap.size w w' := by
  have HR := Lib.hid hr
  have HS := Lib.hid hs
  clear hr hs
  go_enter Try.func45, Try.ntmps45
  go_wp2
  go_loopw [5] (fun i wr => ∃ k : Nat, k ≤ xs.length ∧ i = .int .i64 k ∧ ∃ n, wr = w.drewN n) (fun i _ => xs.length - (intOf i).toNat)
  case atStart => exact ⟨0, Nat.zero_le _, rfl, 0, rfl⟩
  case round =>
    obtain ⟨k, hk, rfl, m, rfl⟩ := hrel
    by_cases hlt : k < xs.length
    · obtain ⟨b, off, rfl, hb, g1⟩ := HR.out.at_ k (by simpa using hlt)
      obtain ⟨b', off', rfl, hb', g2⟩ := HS.out.at_ k (by simpa using hlt)
      rw [zs_get _ _ hlt] at g1 g2
      generalize xs.getD k 0 = x at g1 g2
      go_wp2
      go_quiet (fail)
      go_wp2
      go_roundw
      case rel => exact ⟨k + 1, by omega, by go_num, _, rfl⟩
      case measure => simp [intOf]; omega
    · go_wp2
      go_ret
      exact ⟨rfl, below_drewN' (Below.refl _ _) _⟩
end Go.Proofs.Ytmefbkfapeijgaa
