/- The bytes of words: text, Low. -/
import Derived.Test.YtmefbkfapeijgaaMemC
import Derived.Test.YtmefbkfapeijgaaBytes
namespace Go.Proofs.Ytmefbkfapeijgaa
open Go.RowKit

theorem Try.infoU8 : (Try.prog.info? 5).map (fun i => (i.zero, i.size, i.bytes)) = some (some (.int .u8 0), 1, 1) := by kernel_rfl

set_option maxHeartbeats 1000000 in
theorem text_any (A : Option Addr) (c : Nat) (xs : List Nat) (w : World) (hn : xs.length ≤ 1048576) (hr : Rd w w.heap.size A (ws xs)) (hw : Wd xs) :
    Calls Try.prog 98 #[.slice A xs.length c] w fun e w' => e = .returned (.string (str (bytesOf xs))) ∧ Below w.heap.size w w' := by
  obtain ⟨i0, hi, hz0, hz1, hz2⟩ := info_parts Try.infoU8
  have HR := Lib.hid hr
  have HW := Lib.hid hw
  clear hr hw
  go_enter Try.func98, Try.ntmps98
  go_wp2_with (at_make; go_must (refine wpList_make_own _ rfl _ _ _ rfl w.heap.size _ i0 _ 1 Try.underlying37 hi hz0 hz1 .i64 .i64 _ (4 * xs.length) rfl rfl (by omega) (by rw [hz2]; omega) (by unfold maxLen; omega) (Nat.le_refl _) ?_); intro w1 ho hg; have hb := below_of_grown hg (Nat.le_refl _) (fun k h => by cases h))
  have HO := Lib.hid ho
  have HB := Lib.hid hb
  clear ho hg hb
  go_loopw [3, 12] (fun v i wr => ∃ k : Nat, k ≤ xs.length ∧ i = .int .i64 k ∧ ∃ A1 c1, v = .slice A1 (4 * k) c1 ∧ wr.ownsRow w.heap.size 5 1 (.slice A1 (4 * k) c1) (4 * k) (bc (bytesOf (xs.take k))) ∧ Below w.heap.size w wr) (fun _ i _ => xs.length - (intOf i).toNat)
  case atStart => exact ⟨0, Nat.zero_le _, rfl, _, _, rfl, HO.out, HB.out⟩
  case round =>
    obtain ⟨k, hk, rfl, A1, c1, rfl, ho, hb⟩ := hrel
    by_cases hlt : k < xs.length
    · obtain ⟨b, off, rfl, hb1, hcell⟩ := (HR.out.below hb (Nat.le_refl _)).at_ k (by simpa using hlt)
      rw [ws_get _ _ hlt] at hcell
      have hx := HW.out.at_ k
      have HS := Lib.hid (bytesOf_step xs k hlt)
      generalize xs.getD k 0 = x at hcell hx HS
      have HOr := Lib.hid ho
      have HBr := Lib.hid hb
      have hsz := hb.size
      clear ho hb
      go_wp2_with (at_builtin; go_must (refine wpList_append_rd _ rfl _ _ _ rfl w.heap.size _ i0 _ 1 1 Try.underlying37 hi hz0 hz1 hz2 rfl (by omega) _ (4 * k) _ rfl (HOr.out.alloc _) _ _ 4 4 _ rfl rfl (fun h => by cases h) (Rd.new _ _ _ _) (ints_one4 _ _ _ _ _) (by unfold maxLen; omega) (by omega) (by simp; omega) ?_); intro v2 w2 ho2 hg2 _; rw [← b4_cells x hx, ← bc_append, ← HS.out] at ho2; have HO2 := Lib.hid ho2; have HG2 := Lib.hid hg2; clear ho2 hg2)
      obtain ⟨A2, c2, rfl, _, _⟩ := row_shape HO2.out
      go_roundw
      case rel => exact ⟨k + 1, by omega, by go_num, A2, c2, rfl, HO2.out, (HBr.out.alloc hsz _).grown HG2.out (by simp; omega) (fun g h => (HOr.out.lt g h).1)⟩
      case measure => simp [intOf]; omega
    · have hk2 : k = xs.length := by omega
      subst hk2
      rw [List.take_of_length_le (Nat.le_refl _)] at ho
      have hconv := run_string_row (src := 37) (dst := 9) Try.underlying37 Try.underlying5 Try.underlying9 ho
      have HBr := Lib.hid hb
      clear ho hb
      go_wp2
      go_ret
      exact ⟨rfl, HBr.out⟩

theorem text_at {n : Nat} (A : Option Addr) (c : Nat) (xs : List Nat) (hx : xs.length = n) (w : World) (hn : n ≤ 1048576) (hr : Rd w w.heap.size A (ws xs)) (hw : Wd xs) :
    Calls Try.prog 98 #[.slice A n c] w fun e w' => e = .returned (.string (str (bytesOf xs))) ∧ Below w.heap.size w w' := by
  subst hx; exact text_any A c xs w hn hr hw
theorem low_step (x k : Nat) (hk : k < 4) : (b4 x).take (k + 1) = (b4 x).take k ++ [UInt8.ofNat (x / 2 ^ (8 * k))] := by
  rcases (show k = 0 ∨ k = 1 ∨ k = 2 ∨ k = 3 by omega) with rfl | rfl | rfl | rfl <;> simp [b4]

set_option maxRecDepth 100000 in
set_option maxHeartbeats 1000000 in
theorem low4 (x : Nat) (w : World) :
    Calls Try.prog 99 #[.int .u32 x, .int .i64 4] w fun e w' => e = .returned (.string (str (b4 x))) ∧ Below w.heap.size w w' := by
  obtain ⟨i0, hi, hz0, hz1, hz2⟩ := info_parts Try.infoU8
  go_enter Try.func99, Try.ntmps99
  go_wp2
  go_loopw [5, 6] (fun v i wr => ∃ k : Nat, k ≤ 4 ∧ i = .int .i64 k ∧ ∃ A1 c1, v = .slice A1 k c1 ∧ wr.ownsRow w.heap.size 5 1 (.slice A1 k c1) k (bc ((b4 x).take k)) ∧ Below w.heap.size w wr) (fun _ i _ => 4 - (intOf i).toNat)
  case atStart => exact ⟨0, Nat.zero_le _, rfl, _, _, rfl, World.ownsRow_nil _ _ _ _, Below.refl _ _⟩
  case round =>
    obtain ⟨k, hk, rfl, A1, c1, rfl, ho, hb⟩ := hrel
    by_cases hlt : k < 4
    · have HS := Lib.hid (low_step x k hlt)
      have HOr := Lib.hid ho
      have HBr := Lib.hid hb
      have hsz := hb.size
      clear ho hb
      go_wp2_with (at_builtin; go_must (refine wpList_append_rd _ rfl _ _ _ rfl w.heap.size _ i0 _ 1 1 Try.underlying37 hi hz0 hz1 hz2 rfl (by omega) _ k _ rfl (HOr.out.alloc _) _ _ 1 1 _ rfl rfl (fun h => by cases h) (Rd.new _ _ _ _) (ints_one1 _ _) (by unfold maxLen; omega) (by omega) (by simp; omega) ?_); intro v2 w2 ho2 hg2 _; have HO2 := Lib.hid ho2; have HG2 := Lib.hid hg2; clear ho2 hg2)
      obtain ⟨A2, c2, rfl, _, _⟩ := row_shape HO2.out
      have HE : bc ((b4 x).take (k + 1)) = bc ((b4 x).take k) ++ [Value.int IntKind.u8 ((x : Int) / 2 ^ (8 * k) % 256)] := by
        rw [HS.out, bc_append]
        simp [bc]
      go_roundw
      case rel => exact ⟨k + 1, by omega, by go_num, A2, c2, rfl, by rw [HE]; exact HO2.out, (HBr.out.alloc hsz _).grown HG2.out (by simp; omega) (fun g h => (HOr.out.lt g h).1)⟩
      case measure => simp [intOf]; omega
    · obtain rfl : k = 4 := by omega
      have hconv := run_string_row (src := 37) (dst := 9) Try.underlying37 Try.underlying5 Try.underlying9 ho
      have HBr := Lib.hid hb
      clear ho hb
      go_wp2
      go_ret
      exact ⟨rfl, HBr.out⟩

/-- Whether there is such a page. -/
def pgin (n : Nat) (f : Int) : Bool := decide (0 ≤ f ∧ f < pg n)
set_option maxHeartbeats 400000 in
theorem haspage_any (A : Option Addr) (n c : Nat) (f : Int) (w : World) (hn : n ≤ maxLen) :
    Calls Try.prog 97 #[.slice A n c, .int .i64 f] w fun e w' => e = .returned (.bool (pgin n f)) ∧ w = w' := by
  by_cases h : 0 ≤ f
  · go_enter Try.func97, Try.ntmps97
    go_wp2_with (go_at_call 32; refine (pages_any _ _ _ _ hn).mono ?_; rintro e w' ⟨rfl, rfl⟩)
    go_ret
    exact ⟨ret_bool (by unfold pgin; simp [h]), rfl⟩
  · have g : decide (0 ≤ f) = false := by simp; omega
    go_enter Try.func97, Try.ntmps97
    go_wp2_with (go_at_call 32; refine (pages_any _ _ _ _ hn).mono ?_; rintro e w' ⟨rfl, rfl⟩)
    go_ret
    exact ⟨ret_bool (by unfold pgin; simp; omega), rfl⟩

/-- The bytes of a page. -/
def pgB (xs : List Nat) (f : Int) : List UInt8 := if pgin xs.length f then bytesOf ((xs.drop (32 * f.toNat)).take 32) else []
theorem pgin_le {n : Nat} {f : Int} (h : pgin n f = true) : 0 ≤ f ∧ f < 32 ∧ 32 * f.toNat + 32 ≤ n ∧ n ≤ 1024 := by
  have := pg_le n
  have h1 : pg n ≠ 0 → n ≤ 1024 := by unfold pg; split <;> omega
  simp [pgin] at h
  omega

set_option maxHeartbeats 400000 in
theorem page_any (A : Option Addr) (c : Nat) (f : Int) (xs : List Nat) (w : World) (hn : xs.length ≤ maxLen) (hc : xs.length ≤ c) (hr : Rd w w.heap.size A (ws xs)) (hw : Wd xs) :
    Calls Try.prog 38 #[.slice A xs.length c, .int .i64 f] w fun e w' => e = .returned (.tuple #[.string (str (pgB xs f)), .bool (pgin xs.length f)]) ∧ Below w.heap.size w w' := by
  cases hp : pgin xs.length f with
  | false =>
    have HB := Lib.hid (show pgB xs f = [] by unfold pgB; rw [hp]; rfl)
    go_enter Try.func38, Try.ntmps38
    go_wp2_with (go_at_call 97; refine (haspage_any _ _ _ _ _ hn).mono ?_; rintro e w' ⟨rfl, rfl⟩)
    go_ret2
    exact ⟨by rw [HB.out]; rfl, Below.refl _ _⟩
  | true =>
    have HB := Lib.hid (show pgB xs f = bytesOf ((xs.drop (32 * f.toNat)).take 32) by unfold pgB; rw [hp]; rfl)
    obtain ⟨h0, h1, h2, h3⟩ := pgin_le hp
    go_enter Try.func38, Try.ntmps38
    go_wp2_with (go_at_call 97; refine (haspage_any _ _ _ _ _ hn).mono ?_; rintro e w' ⟨rfl, rfl⟩)
    refine (text_at _ _ ((xs.drop (f * 32).toNat).take 32) (by simp; omega) _ (by omega) (by rw [← ws_piece]; exact hr.piece _ _ (by simp; omega)) (hw.piece _ _)).mono ?_
    rintro e w1 ⟨rfl, hb⟩
    go_wp2_with fail
    go_ret2
    exact ⟨by rw [HB.out, show 32 * f.toNat = (f * 32).toNat by omega]; rfl, hb⟩

theorem page_words (xs : List Nat) (q k : Nat) (hk : k < 32) (h : 32 * q + 32 ≤ xs.length) : bytesOf (((xs.drop (32 * q)).take 32).take (k + 1)) = bytesOf (((xs.drop (32 * q)).take 32).take k) ++ b4 (xs.getD (32 * q + k) 0) := by
  rw [bytesOf_step _ k (by simp; omega)]
  congr 2
  simp [List.getD_eq_getElem?_getD, hk]

set_option maxRecDepth 100000 in
set_option maxHeartbeats 1000000 in
theorem rpage_any (A : Option Addr) (c : Nat) (f : Int) (xs : List Nat) (w : World) (hn : xs.length ≤ maxLen) (hr : Rd w w.heap.size A (ws xs)) :
    Calls Try.prog 40 #[.slice A xs.length c, .int .i64 f] w fun e w' => e = .returned (.tuple #[.string (str (pgB xs f)), .bool (pgin xs.length f)]) ∧ Below w.heap.size w w' := by
  obtain ⟨i0, hi, hz0, hz1, hz2⟩ := info_parts Try.infoU8
  cases hp : pgin xs.length f with
  | false =>
    have HB := Lib.hid (show pgB xs f = [] by unfold pgB; rw [hp]; rfl)
    by_cases h0 : 0 ≤ f
    · have g0 : decide (f < 0) = false := by simp; omega
      have g1 : decide ((pg xs.length : Int) ≤ f) = true := by simp [pgin] at hp ⊢; omega
      go_enter Try.func40, Try.ntmps40
      go_wp2_with (go_at_call 33; refine (rpages_any _ _ _ _ hn).mono ?_; rintro e w' ⟨rfl, rfl⟩)
      go_ret2
      exact ⟨by rw [HB.out]; rfl, Below.refl _ _⟩
    · have g0 : decide (f < 0) = true := by simp; omega
      go_enter Try.func40, Try.ntmps40
      go_wp2_with fail
      go_ret2
      exact ⟨by rw [HB.out]; rfl, Below.refl _ _⟩
  | true =>
    have HB := Lib.hid (show pgB xs f = bytesOf ((xs.drop (32 * f.toNat)).take 32) by unfold pgB; rw [hp]; rfl)
    obtain ⟨h0, h1, h2, h3⟩ := pgin_le hp
    have g0 : decide (f < 0) = false := by simp; omega
    have g1 : decide ((pg xs.length : Int) ≤ f) = false := by simp [pgin] at hp ⊢; omega
    obtain ⟨q, rfl⟩ := Int.eq_ofNat_of_zero_le h0
    simp only [Int.toNat_natCast] at HB h2
    have hq : q < 32 := by omega
    have g2 : decide (pg xs.length ≤ q) = false := by simp at g1 ⊢; omega
    have HP := Lib.hid hp
    have HR := Lib.hid hr
    clear hp hr h0 h1
    go_enter Try.func40, Try.ntmps40
    go_wp2_with (go_at_call 33; refine (rpages_any _ _ _ _ hn).mono ?_; rintro e w' ⟨rfl, rfl⟩)
    go_loopw [6, 7] (fun v i wr => ∃ k : Nat, k ≤ 32 ∧ i = .int .i64 k ∧ ∃ A1 c1, v = .slice A1 (4 * k) c1 ∧ wr.ownsRow w.heap.size 5 1 (.slice A1 (4 * k) c1) (4 * k) (bc (bytesOf (((xs.drop (32 * q)).take 32).take k))) ∧ Below w.heap.size w wr) (fun _ i _ => 32 - (intOf i).toNat)
    case atStart => exact ⟨0, Nat.zero_le _, rfl, _, _, rfl, World.ownsRow_nil _ _ _ _, Below.refl _ _⟩
    case round =>
      obtain ⟨k, hk, rfl, A1, c1, rfl, ho, hb⟩ := hrel
      by_cases hlt : k < 32
      · obtain ⟨b, off, rfl, hb1, hcell⟩ := (HR.out.below hb (Nat.le_refl _)).at_ (32 * q + k) (by simp; omega)
        rw [ws_get _ _ (by omega)] at hcell
        have HS := Lib.hid (page_words xs q k hlt h2)
        generalize xs.getD (32 * q + k) 0 = x at hcell HS
        rw [Nat.mul_comm 32 q] at hcell
        have HOr := Lib.hid ho
        have HBr := Lib.hid hb
        have hsz := hb.size
        clear ho hb
        go_wp2_with fail
        refine (low4 _ _).mono ?_
        rintro e w2 ⟨rfl, hb2⟩
        have HO2 := Lib.hid (row_below HOr.out hb2 (Nat.le_refl _))
        have HB2 := Lib.hid (HBr.out.trans (hb2.mono hsz))
        have hsz2 := hb2.size
        clear hb2
        go_wp2_with (at_builtin; go_must (refine Lib.wpList_append_own_string _ rfl _ _ _ _ rfl w.heap.size _ i0 Try.underlying37 Try.underlying9 hi hz0 hz1 hz2 _ (4 * k) _ rfl HO2.out (str (b4 x)) rfl (by rw [str_size]; unfold maxLen; simp [b4]; omega) (by rw [str_size]; simp [b4]; omega) (by omega) ?_); intro v3 w3 ho3 hg3 _; rw [strCells_str, ← bc_append, ← HS.out, str_size] at ho3; have HO3 := Lib.hid ho3; have HG3 := Lib.hid hg3; clear ho3 hg3)
        obtain ⟨A3, c3, rfl, _, _⟩ := row_shape HO3.out
        go_roundw
        case rel => exact ⟨k + 1, by omega, by go_num, A3, c3, rfl, HO3.out, HB2.out.grown HG3.out (by omega) (fun g h => (HO2.out.lt g h).1)⟩
        case measure => simp [intOf]; omega
      · obtain rfl : k = 32 := by omega
        rw [List.take_of_length_le (by simp; omega)] at ho
        have hconv := run_string_row (src := 37) (dst := 9) Try.underlying37 Try.underlying5 Try.underlying9 ho
        have HBr := Lib.hid hb
        clear ho hb
        go_wp2
        go_ret2
        exact ⟨by rw [HB.out]; rfl, HBr.out⟩
end Go.Proofs.Ytmefbkfapeijgaa
