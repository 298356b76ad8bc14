/- Replacing a page, by the program and by the reference. -/
import Derived.Test.YtmefbkfapeijgaaMemE
import Derived.Test.YtmefbkfapeijgaaView
import Derived.StillTailTactics
namespace Go.Proofs.Ytmefbkfapeijgaa
open Go.RowKit

/-- Whether a page can be replaced by n bytes. -/
def spin (n : Nat) (f : Int) (m : Nat) : Bool := pgin n f && decide (m = 128)
/-- The bytes behind the replacement of a page. -/
def spB (xs : List Nat) (f : Int) (l : List UInt8) : List UInt8 := if spin xs.length f l.length then sp (bytesOf xs) (128 * f.toNat) l else bytesOf xs

theorem cut4 (l : List UInt8) (h : l.length = 4) : ∃ b0 b1 b2 b3, l = [b0, b1, b2, b3] := by
  match l, h with
  | [b0, b1, b2, b3], _ => exact ⟨b0, b1, b2, b3, rfl⟩
/-- What the replacement of a page hands back. -/
def PgOut (n : Nat) (ok : Bool) (by_ : List UInt8) (w : World) (e : Ending) (w' : World) : Prop :=
  ∃ A' c' us, e = .returned (.tuple #[.slice A' n c', .bool ok]) ∧ w'.ownsRow w.heap.size 24 1 (.slice A' n c') n (ws us) ∧ Wd us ∧ bytesOf us = by_ ∧ Below w.heap.size w w'
theorem str_cut (l : List UInt8) (a b : Nat) (m : List UInt8) (hm : (l.drop a).take (b - a) = m) : (str l).extract a b = str m := by
  subst hm
  apply ByteArray.ext
  rw [ByteArray.data_extract]
  simp [str, List.extract_toArray]
/-- Four bytes as a word. -/
def w4 (b0 b1 b2 b3 : UInt8) : Nat := b0.toNat + 256 * b1.toNat + 65536 * b2.toNat + 16777216 * b3.toNat
theorem w4_lt (b0 b1 b2 b3 : UInt8) : w4 b0 b1 b2 b3 < 4294967296 := by
  have := b0.toNat_lt; have := b1.toNat_lt; have := b2.toNat_lt; have := b3.toNat_lt
  unfold w4; omega
theorem b4_w4 (b0 b1 b2 b3 : UInt8) : b4 (w4 b0 b1 b2 b3) = [b0, b1, b2, b3] := by
  have := b0.toNat_lt; have := b1.toNat_lt; have := b2.toNat_lt; have := b3.toNat_lt
  have e : ∀ (n : Nat) (b : UInt8), n % 256 = b.toNat → UInt8.ofNat n = b := fun n b h => UInt8.toNat.inj (by simp; omega)
  unfold b4
  rw [e _ b0 (by unfold w4; omega), e _ b1 (by unfold w4; omega), e _ b2 (by unfold w4; omega), e _ b3 (by unfold w4; omega)]
theorem or4 (b0 b1 b2 b3 : UInt8) : bits BinOp.or IntKind.u32 (bits BinOp.or IntKind.u32 (bits BinOp.or IntKind.u32 ((b0.toNat : Int) % 4294967296) ((b1.toNat : Int) % 4294967296 * 256 % 4294967296)) ((b2.toNat : Int) % 4294967296 * 65536 % 4294967296)) ((b3.toNat : Int) % 4294967296 * 16777216 % 4294967296) = (w4 b0 b1 b2 b3 : Nat) := by
  have h0 := b0.toNat_lt; have h1 := b1.toNat_lt; have h2 := b2.toNat_lt; have h3 := b3.toNat_lt
  rw [show (b0.toNat : Int) % 4294967296 = ((b0.toNat : Nat) : Int) by omega, show (b1.toNat : Int) % 4294967296 * 256 % 4294967296 = ((b1.toNat * 256 : Nat) : Int) by omega,
    show (b2.toNat : Int) % 4294967296 * 65536 % 4294967296 = ((b2.toNat * 65536 : Nat) : Int) by omega, show (b3.toNat : Int) % 4294967296 * 16777216 % 4294967296 = ((b3.toNat * 16777216 : Nat) : Int) by omega]
  rw [u32_or_nat _ _ (by omega) (by omega), Nat.or_comm, nat_join 8 (b1.toNat * 256) b0.toNat (by omega) (by omega)]
  rw [u32_or_nat _ _ (by omega) (by omega), Nat.or_comm, nat_join 16 (b2.toNat * 65536) _ (by omega) (by omega)]
  rw [u32_or_nat _ _ (by omega) (by omega), Nat.or_comm, nat_join 24 (b3.toNat * 16777216) _ (by omega) (by omega)]
  congr 1; unfold w4; omega
theorem page_step (xs us : List Nat) (l : List UInt8) (q k : Nat) (b0 b1 b2 b3 : UInt8) (hk : k < 32) (h2 : 32 * q + 32 ≤ xs.length) (hlu : us.length = xs.length) (hl : l.length = 128)
    (hc : (l.drop (4 * k)).take 4 = [b0, b1, b2, b3]) (hy : bytesOf us = sp (bytesOf xs) (128 * q) (l.take (4 * k))) : bytesOf (us.set (q * 32 + k) (w4 b0 b1 b2 b3)) = sp (bytesOf xs) (128 * q) (l.take (4 * (k + 1))) := by
  have hlt : (l.take (4 * k)).length = 4 * k := by simp; omega
  rw [bytesOf_set _ _ _ (by omega), b4_w4, hy, show 4 * (q * 32 + k) = 128 * q + (l.take (4 * k)).length by rw [hlt]; omega, sp_snoc]
  · congr 1
    rw [← hc, show 4 * (k + 1) = 4 * k + 4 by omega, List.take_add]
  · rw [hlt, bytesOf_length]; simp; omega
theorem str_get (l : List UInt8) (i : Nat) (h : i < (str l).size) : (str l)[i] = l[i]'(by simpa using h) := rfl

set_option maxRecDepth 100000 in
set_option maxHeartbeats 1000000 in
theorem setpage_any (A : Option Addr) (c : Nat) (f : Int) (l : List UInt8) (xs : List Nat) (w : World) (hn : xs.length ≤ 35184372087808) (hr : Rd w w.heap.size A (ws xs)) (hw : Wd xs) :
    Calls Try.prog 41 #[.slice A xs.length c, .int .i64 f, .string (str l)] w (PgOut xs.length (spin xs.length f l.length) (spB xs f l) w) := by
  have hm : xs.length ≤ maxLen := by unfold maxLen; omega
  have HR := Lib.hid hr
  have HW := Lib.hid hw
  clear hr hw
  cases hp : pgin xs.length f with
  | false =>
    have HS := Lib.hid (show spin xs.length f l.length = false by simp [spin, hp])
    have HB := Lib.hid (show spB xs f l = bytesOf xs by unfold spB; rw [HS.out]; rfl)
    go_enter Try.func41, Try.ntmps41
    go_wp2_with (first | (go_at_call 92; refine (clone_any _ _ _ _ hn HR.out).mono ?_; rintro e w1 ⟨A', c', rfl, ho, hb⟩) | (go_at_call 97; refine (haspage_any _ _ _ _ _ hm).mono ?_; rintro e w' ⟨rfl, rfl⟩))
    go_ret2
    exact ⟨A', c', xs, by rw [HS.out]; rfl, ho, HW.out, HB.out.symm, hb⟩
  | true =>
    by_cases hl : l.length = 128
    · have HS := Lib.hid (show spin xs.length f l.length = true by simp [spin, hp, hl])
      have HB := Lib.hid (show spB xs f l = sp (bytesOf xs) (128 * f.toNat) l by unfold spB; rw [HS.out]; rfl)
      obtain ⟨h0, h1, h2, h3⟩ := pgin_le hp
      obtain ⟨q, rfl⟩ := Int.eq_ofNat_of_zero_le h0
      simp only [Int.toNat_natCast] at HB h2
      have hq : q < 32 := by omega
      have g1 : ((l.length : Int) != 128) = false := by simp; omega
      have HL := Lib.hid hl
      clear h0 h1 hl
      go_enter Try.func41, Try.ntmps41
      go_wp2_with (first | (go_at_call 92; refine (clone_any _ _ _ _ hn HR.out).mono ?_; rintro e w1 ⟨A', c', rfl, ho, hb⟩; obtain ⟨g, rfl, hg1, hg2⟩ := row_get ho (by omega); have HO := Lib.hid ho; clear ho) | (go_at_call 97; refine (haspage_any _ _ _ _ _ hm).mono ?_; rintro e w' ⟨rfl, rfl⟩))
      have HBd := Lib.hid hb
      clear hb
      go_loopw [26] (fun i wr => ∃ k : Nat, k ≤ 32 ∧ i = .int .i64 k ∧ ∃ us, wr.ownsRow w.heap.size 24 1 (.slice (some ⟨g, 0, none⟩) xs.length c') xs.length (ws us) ∧ Wd us ∧ bytesOf us = sp (bytesOf xs) (128 * q) (l.take (4 * k)) ∧ Below w.heap.size w wr) (fun i _ => 32 - (intOf i).toNat)
      case atStart => exact ⟨0, Nat.zero_le _, rfl, xs, HO.out, HW.out, by simp [sp_nil], HBd.out⟩
      case round =>
        obtain ⟨k, hk, rfl, us, ho, hw, hby, hb⟩ := hrel
        have hlu : us.length = xs.length := by have := ho.1; simp at this; omega
        by_cases hlt : k < 32
        · obtain ⟨b0, b1, b2, b3, hcut⟩ : ∃ b0 b1 b2 b3, (l.drop (4 * k)).take 4 = [b0, b1, b2, b3] := cut4 _ (by have := HL.out; simp; omega)
          have hex := str_cut l (4 * k) (4 * k + 4) [b0, b1, b2, b3] (by rw [show 4 * k + 4 - 4 * k = 4 by omega]; exact hcut)
          have h128 : 128 ≤ l.length := by have := HL.out; omega
          have HC := Lib.hid hcut
          have HOr := Lib.hid ho
          have HBr := Lib.hid hb
          have HY := Lib.hid hby
          have hcx := (ho.cellAt (q * 32 + k) (by omega)).trans (ws_get us (q * 32 + k) (by omega))
          have hfx := ho.frozenAt (q * 32 + k)
          have HLU := Lib.hid hlu
          have s1 : IntKind.i64.wrap ((q : Int) * 32 + (k : Int)) = (q : Int) * 32 + (k : Int) := IntWalk.i64_in _ (by omega)
          have s2 : 0 ≤ (q : Int) * 32 + (k : Int) := by omega
          have s3 : (q : Int) * 32 + (k : Int) < (xs.length : Int) := by omega
          have s4 : ((q : Int) * 32 + (k : Int)).toNat = q * 32 + k := by omega
          clear ho hb hby hcut hlu
          go_wp2_with fail
          refine wp_region_still_tail 23 (by kernel_rfl) (by kernel_rfl) ?_
          simp only [List.take_succ_cons, List.take_zero, List.drop_succ_cons, List.drop_zero]
          iterate 23 still_step
          refine wpStill_nil ?_
          change wpList _ _ _ _ _ wr.drew
          go_wp2
          go_roundw
          case rel => exact ⟨k + 1, by omega, by go_num, us.set (q * 32 + k) (w4 b0 b1 b2 b3), World.ownsRow.drew (by rw [← ws_set, ← or4]; exact (HOr.out.stored (q * 32 + k) _).1), hw.set _ _ (w4_lt _ _ _ _), page_step xs us l q k _ _ _ _ hlt h2 HLU.out HL.out HC.out HY.out, ((HBr.out).setCell (p := ⟨g, q * 32 + k, none⟩) hg1 _).drew⟩
          case measure => simp [intOf]; omega
        · obtain rfl : k = 32 := by omega
          have e1 : us = us := rfl
          rw [List.take_of_length_le (by have := HL.out; omega)] at hby
          have HOr := Lib.hid ho
          have HBr := Lib.hid hb
          have HY := Lib.hid hby
          clear ho hb hby
          go_wp2
          go_ret2
          exact ⟨some ⟨g, 0, none⟩, c', us, by rw [HS.out]; rfl, HOr.out, hw, by rw [HB.out]; exact HY.out, HBr.out⟩
    · have HS := Lib.hid (show spin xs.length f l.length = false by simp [spin, hl])
      have HB := Lib.hid (show spB xs f l = bytesOf xs by unfold spB; rw [HS.out]; rfl)
      have g1 : ((l.length : Int) != 128) = true := by rw [bne_iff_ne]; omega
      clear hl
      go_enter Try.func41, Try.ntmps41
      go_wp2_with (first | (go_at_call 92; refine (clone_any _ _ _ _ hn HR.out).mono ?_; rintro e w1 ⟨A', c', rfl, ho, hb⟩) | (go_at_call 97; refine (haspage_any _ _ _ _ _ hm).mono ?_; rintro e w' ⟨rfl, rfl⟩))
      go_ret2
      exact ⟨A', c', xs, by rw [HS.out]; rfl, ho, HW.out, HB.out.symm, hb⟩
end Go.Proofs.Ytmefbkfapeijgaa
