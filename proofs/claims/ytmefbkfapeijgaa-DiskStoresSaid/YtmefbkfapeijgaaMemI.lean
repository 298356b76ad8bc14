/- The pages that differ, by the program and by the reference. -/
import Derived.Test.YtmefbkfapeijgaaMemH
import Derived.Test.YtmefbkfapeijgaaMemB
namespace Go.Proofs.Ytmefbkfapeijgaa
open Go.RowKit

theorem Try.infoI64 : (Try.prog.info? 3).map (fun i => (i.zero, i.size, i.bytes)) = some (some (.int .i64 0), 1, 8) := by kernel_rfl
/-- The words of a page; the pages below k that differ; the pages that differ. -/
def pc (xs : List Nat) (i : Nat) : List Nat := (xs.drop (32 * i)).take 32
def chgTo (xs us : List Nat) (k : Nat) : List Int := ((List.range k).filter fun i => !decide (pc xs i = pc us i)).map fun (i : Nat) => (i : Int)
def chg (xs us : List Nat) : List Int := if xs.length = us.length then chgTo xs us (pg xs.length) else []
theorem chgTo_same (xs us : List Nat) (k : Nat) (h : pc xs k = pc us k) : chgTo xs us (k + 1) = chgTo xs us k := by
  unfold chgTo; rw [List.range_succ, List.filter_append]; simp [h]
theorem chgTo_other (xs us : List Nat) (k : Nat) (h : pc xs k ≠ pc us k) : chgTo xs us (k + 1) = chgTo xs us k ++ [(k : Int)] := by
  unfold chgTo; rw [List.range_succ, List.filter_append]; simp [h]
theorem chgTo_le (xs us : List Nat) (k : Nat) : (chgTo xs us k).length ≤ k := by
  unfold chgTo; rw [List.length_map]; exact Nat.le_trans (List.length_filter_le _ _) (by simp)
theorem pg_pos (n : Nat) (h : 0 < pg n) : n = 32 * pg n := by
  unfold pg at h ⊢; split <;> simp_all <;> omega
theorem chg_to (xs us : List Nat) (h : pg xs.length = pg us.length) : chg xs us = chgTo xs us (pg xs.length) := by
  unfold chg
  split
  · rfl
  · rename_i hne
    have : pg xs.length = 0 := by
      rcases Nat.eq_zero_or_pos (pg xs.length) with h0 | h0
      · exact h0
      · have h1 := pg_pos _ h0
        have h2 := pg_pos _ (h ▸ h0)
        omega
    rw [this]; rfl
theorem chg_len (xs us : List Nat) : (chg xs us).length ≤ 32 := by
  unfold chg
  split
  · exact Nat.le_trans (chgTo_le _ _ _) (pg_le _).1
  · simp
theorem pc_length (xs : List Nat) (i : Nat) (h : 32 * i + 32 ≤ xs.length) : (pc xs i).length = 32 := by simp [pc]; omega

theorem equal_at {n m : Nat} (A D : Option Addr) (c d : Nat) (xs us : List Nat) (hx : xs.length = n) (hu : us.length = m) (w : World) (hn : n ≤ 1048576) (hm : m ≤ 1048576) (hr : Rd w w.heap.size A (ws xs)) (hs : Rd w w.heap.size D (ws us)) (b : Bool) (hb : decide (xs = us) = b) :
    Calls Try.prog 103 #[.slice A n c, .slice D m d] w fun e w' => e = .returned (.bool b) ∧ ∃ n, w' = w.drewN n := by
  subst hx hu hb; exact equal_any A D c d xs us w (by unfold maxLen; omega) (by unfold maxLen; omega) hr hs
theorem samew_at {n m : Nat} (A D : Option Addr) (c d : Nat) (xs us : List Nat) (hx : xs.length = n) (hu : us.length = m) (w : World) (hn : n ≤ 1048576) (hm : m ≤ 1048576) (hr : Rd w w.heap.size A (ws xs)) (hs : Rd w w.heap.size D (ws us)) (b : Bool) (hb : decide (xs = us) = b) :
    Calls Try.prog 31 #[.slice A n c, .slice D m d] w fun e w' => e = .returned (.bool b) ∧ ∃ n, w' = w.drewN n := by
  subst hx hu hb; exact same_any A D c d xs us w (by unfold maxLen; omega) (by unfold maxLen; omega) hr hs

theorem equal_pages (A D : Option Addr) (c d : Nat) (xs us : List Nat) (k n : Nat) (W : World) (hr : Rd W W.heap.size A (ws xs)) (hs : Rd W W.heap.size D (ws us)) (hx : 32 * k + 32 ≤ xs.length) (hu : 32 * k + 32 ≤ us.length) (b : Bool) (hb : decide (pc xs k = pc us k) = b) :
    Calls Try.prog 103 #[.slice (A.map (·.add (k * 32))) 32 c, .slice (D.map (·.add (k * 32))) 32 d] (W.drewN n) fun e w'' => e = .returned (.bool b) ∧ ∃ m, w'' = W.drewN m :=
  Calls.quiet_of (equal_at (w := W.drewN n) _ _ _ _ (pc xs k) (pc us k) (pc_length _ _ hx) (pc_length _ _ hu) (by omega) (by omega)
    ((hr.piece (k * 32) 32 (by simp; omega)).cast (by rw [ws_piece, Nat.mul_comm]; rfl)) ((hs.piece (k * 32) 32 (by simp; omega)).cast (by rw [ws_piece, Nat.mul_comm]; rfl)) b hb)
theorem same_pages (A D : Option Addr) (c d : Nat) (xs us : List Nat) (k n : Nat) (W : World) (hr : Rd W W.heap.size A (ws xs)) (hs : Rd W W.heap.size D (ws us)) (hx : 32 * k + 32 ≤ xs.length) (hu : 32 * k + 32 ≤ us.length) (b : Bool) (hb : decide (pc xs k = pc us k) = b) :
    Calls Try.prog 31 #[.slice (A.map (·.add (k * 32))) 32 c, .slice (D.map (·.add (k * 32))) 32 d] (W.drewN n) fun e w'' => e = .returned (.bool b) ∧ ∃ m, w'' = W.drewN m :=
  Calls.quiet_of (samew_at (w := W.drewN n) _ _ _ _ (pc xs k) (pc us k) (pc_length _ _ hx) (pc_length _ _ hu) (by omega) (by omega)
    ((hr.piece (k * 32) 32 (by simp; omega)).cast (by rw [ws_piece, Nat.mul_comm]; rfl)) ((hs.piece (k * 32) 32 (by simp; omega)).cast (by rw [ws_piece, Nat.mul_comm]; rfl)) b hb)

/-- What Changed hands back. -/
def ChgOut (l : List Int) (w : World) (e : Ending) (w' : World) : Prop :=
  ∃ A c, e = .returned (.slice A l.length c) ∧ w'.ownsRow w.heap.size 3 1 (.slice A l.length c) l.length (zs l) ∧ Below w.heap.size w w'

set_option maxRecDepth 100000 in
set_option maxHeartbeats 1000000 in
theorem changed_any (A D : Option Addr) (c d : Nat) (xs us : List Nat) (w : World) (hn : xs.length ≤ 1048576) (hm : us.length ≤ 1048576) (hc : xs.length ≤ c) (hd : us.length ≤ d) (hr : Rd w w.heap.size A (ws xs)) (hs : Rd w w.heap.size D (ws us)) :
    Calls Try.prog 46 #[.slice A xs.length c, .slice D us.length d] w (ChgOut (chg xs us) w) := by
  have hn1 : xs.length ≤ maxLen := by unfold maxLen; omega
  have hm1 : us.length ≤ maxLen := by unfold maxLen; omega
  obtain ⟨i0, hi, hz0, hz1, hz2⟩ := info_parts Try.infoI64
  have HR := Lib.hid hr
  have HS := Lib.hid hs
  clear hr hs
  by_cases hp : pg xs.length = pg us.length
  · have HC := Lib.hid (chg_to xs us hp)
    have hx := pg_le xs.length
    have hu := pg_le us.length
    rw [← hp] at hu
    have CP1 := Lib.hid (fun W => pages_any A xs.length c W hn1)
    have CP2 := Lib.hid (fun W => hp ▸ pages_any D us.length d W hm1)
    obtain ⟨p, hpe⟩ : ∃ p, pg xs.length = p := ⟨_, rfl⟩
    rw [hpe] at CP1 CP2 hx hu HC
    clear hp hpe
    go_enter Try.func46, Try.ntmps46
    go_wp2_with fail
    refine (CP1.out _).mono ?_; rintro e w' ⟨rfl, rfl⟩
    go_wp2_with fail
    refine (CP2.out _).mono ?_; rintro e w' ⟨rfl, rfl⟩
    go_wp2_with fail
    go_loopw [6, 17] (fun v i wr => ∃ k : Nat, k ≤ p ∧ i = .int .i64 k ∧ ∃ m A1 c1, m = (chgTo xs us k).length ∧ v = .slice A1 m c1 ∧ wr.ownsRow w.heap.size 3 1 (.slice A1 m c1) m (zs (chgTo xs us k)) ∧ Below w.heap.size w wr) (fun _ i _ => p - (intOf i).toNat)
    case atStart => exact ⟨0, Nat.zero_le _, rfl, 0, _, _, rfl, rfl, World.ownsRow_nil _ _ _ _, Below.refl _ _⟩
    case round =>
      obtain ⟨k, hk, rfl, m, A1, c1, hm, rfl, ho, hb⟩ := hrel
      have hle := chgTo_le xs us k
      rw [← hm] at hle
      have HM := Lib.hid hm
      have HO := Lib.hid ho
      have HB := Lib.hid hb
      have hsz := hb.size
      clear ho hb hm
      by_cases hlt : k < p
      · by_cases he : pc xs k = pc us k
        · have HE := Lib.hid (chgTo_same xs us k he)
          have HCE := Lib.hid (fun n => equal_pages A D (c - k * 32) (d - k * 32) xs us k n wr ((HR.out.below HB.out (Nat.le_refl _)).more hsz) ((HS.out.below HB.out (Nat.le_refl _)).more hsz) (by omega) (by omega) true (by simp [he]))
          clear he
          go_wp2_with fail
          go_quiet ((go_at_call 103; rw [show (k + 1) * 32 - k * 32 = 32 by omega]; exact HCE.out _))
          go_wp2
          go_roundw
          case rel => exact ⟨k + 1, by omega, by go_num, m, A1, c1, by rw [HE.out]; exact HM.out, rfl, by rw [HE.out]; exact HO.out, below_drewN' HB.out _⟩
          case measure => simp [intOf]; omega
        · have HE := Lib.hid (chgTo_other xs us k he)
          have HCE := Lib.hid (fun n => equal_pages A D (c - k * 32) (d - k * 32) xs us k n wr ((HR.out.below HB.out (Nat.le_refl _)).more hsz) ((HS.out.below HB.out (Nat.le_refl _)).more hsz) (by omega) (by omega) false (by simp [he]))
          clear he
          go_wp2_with fail
          go_quiet ((go_at_call 103; rw [show (k + 1) * 32 - k * 32 = 32 by omega]; exact HCE.out _))
          go_wp2_with (at_builtin; go_must (refine wpList_append_rd _ rfl _ _ _ rfl w.heap.size _ i0 _ 1 8 Try.underlying23 hi hz0 hz1 hz2 rfl (by omega) _ m _ rfl (World.ownsRow.alloc (w := wr.drewN nq) HO.out _) _ _ 1 1 _ rfl rfl (fun h => by cases h) (Rd.new _ _ _ _) (ints_one1 _ _) (by unfold maxLen; omega) (by omega) (by simp; omega) ?_); intro v2 w2 ho2 hg2 _; have HO2 := Lib.hid ho2; have HG2 := Lib.hid hg2; clear ho2 hg2)
          obtain ⟨A2, c2, rfl, _, _⟩ := row_shape HO2.out
          go_roundw
          case rel => exact ⟨k + 1, by omega, by go_num, m + 1, A2, c2, by rw [HE.out, List.length_append, ← HM.out]; rfl, rfl, by rw [HE.out]; simpa [zs] using HO2.out, ((below_drewN' HB.out nq).alloc hsz _).grown HG2.out (by simp; omega) (fun g h => (HO.out.lt g h).1)⟩
          case measure => simp [intOf]; omega
      · obtain rfl : k = p := by omega
        go_wp2_with fail
        go_ret
        exact ⟨A1, c1, by rw [HC.out, ← HM.out]; rfl, by rw [HC.out, ← HM.out]; exact HO.out, HB.out⟩
  · have hne : xs.length ≠ us.length := fun h => hp (by rw [h])
    have HC := Lib.hid (show chg xs us = [] by unfold chg; rw [if_neg hne])
    have g1 : ((pg xs.length : Int) != (pg us.length : Int)) = true := by rw [bne_iff_ne]; omega
    clear hp hne
    go_enter Try.func46, Try.ntmps46
    go_wp2_with fail
    refine (pages_any _ _ _ _ hn1).mono ?_; rintro e w' ⟨rfl, rfl⟩
    go_wp2_with fail
    refine (pages_any _ _ _ _ hm1).mono ?_; rintro e w' ⟨rfl, rfl⟩
    go_wp2_with fail
    go_ret
    exact ⟨none, 0, by rw [HC.out]; rfl, by rw [HC.out]; exact World.ownsRow_nil _ _ _ _, Below.refl _ _⟩

set_option maxRecDepth 100000 in
set_option maxHeartbeats 1000000 in
theorem rchanged_any (A D : Option Addr) (c d : Nat) (xs us : List Nat) (w : World) (hn : xs.length ≤ 1048576) (_hm : us.length ≤ 1048576) (hc : xs.length ≤ c) (hd : us.length ≤ d) (hr : Rd w w.heap.size A (ws xs)) (hs : Rd w w.heap.size D (ws us)) :
    Calls Try.prog 47 #[.slice A xs.length c, .slice D us.length d] w (ChgOut (chg xs us) w) := by
  have hn1 : xs.length ≤ maxLen := by unfold maxLen; omega
  obtain ⟨i0, hi, hz0, hz1, hz2⟩ := info_parts Try.infoI64
  have HR := Lib.hid hr
  have HS := Lib.hid hs
  clear hr hs
  by_cases hl : xs.length = us.length
  · have HC := Lib.hid (show chg xs us = chgTo xs us (pg xs.length) by unfold chg; rw [if_pos hl])
    have hx := pg_le xs.length
    have hu := pg_le xs.length
    rw [show 32 * pg xs.length ≤ xs.length ↔ 32 * pg xs.length ≤ us.length by rw [hl]] at hu
    have CP1 := Lib.hid (fun W => rpages_any A xs.length c W hn1)
    obtain ⟨p, hpe⟩ : ∃ p, pg xs.length = p := ⟨_, rfl⟩
    rw [hpe] at CP1 hx hu HC
    have g1 : ((xs.length : Int) != (us.length : Int)) = false := by simp; omega
    have HL := Lib.hid hl
    clear hpe hl
    go_enter Try.func47, Try.ntmps47
    go_wp2_with fail
    go_loopw [5, 6] (fun v i wr => ∃ k : Nat, k ≤ p ∧ i = .int .i64 k ∧ ∃ m A1 c1, m = (chgTo xs us k).length ∧ v = .slice A1 m c1 ∧ wr.ownsRow w.heap.size 3 1 (.slice A1 m c1) m (zs (chgTo xs us k)) ∧ Below w.heap.size w wr) (fun _ i _ => p - (intOf i).toNat)
    case atStart => exact ⟨0, Nat.zero_le _, rfl, 0, _, _, rfl, rfl, World.ownsRow_nil _ _ _ _, Below.refl _ _⟩
    case round =>
      obtain ⟨k, hk, rfl, m, A1, c1, hm, rfl, ho, hb⟩ := hrel
      have hle := chgTo_le xs us k
      rw [← hm] at hle
      have HM := Lib.hid hm
      have HO := Lib.hid ho
      have HB := Lib.hid hb
      have hsz := hb.size
      clear ho hb hm
      by_cases hlt : k < p
      · by_cases he : pc xs k = pc us k
        · have HE := Lib.hid (chgTo_same xs us k he)
          have HCE := Lib.hid (fun n => same_pages A D (c - k * 32) (d - k * 32) xs us k n wr ((HR.out.below HB.out (Nat.le_refl _)).more hsz) ((HS.out.below HB.out (Nat.le_refl _)).more hsz) (by omega) (by omega) true (by simp [he]))
          clear he
          go_wp2_with fail
          refine (CP1.out _).mono ?_; rintro e w' ⟨rfl, rfl⟩
          go_wp2_with fail
          go_quiet ((go_at_call 31; rw [show (k + 1) * 32 - k * 32 = 32 by omega]; exact HCE.out _))
          go_wp2
          go_roundw
          case rel => exact ⟨k + 1, by omega, by go_num, m, A1, c1, by rw [HE.out]; exact HM.out, rfl, by rw [HE.out]; exact HO.out, below_drewN' HB.out _⟩
          case measure => simp [intOf]; omega
        · have HE := Lib.hid (chgTo_other xs us k he)
          have HCE := Lib.hid (fun n => same_pages A D (c - k * 32) (d - k * 32) xs us k n wr ((HR.out.below HB.out (Nat.le_refl _)).more hsz) ((HS.out.below HB.out (Nat.le_refl _)).more hsz) (by omega) (by omega) false (by simp [he]))
          clear he
          go_wp2_with fail
          refine (CP1.out _).mono ?_; rintro e w' ⟨rfl, rfl⟩
          go_wp2_with fail
          go_quiet ((go_at_call 31; rw [show (k + 1) * 32 - k * 32 = 32 by omega]; exact HCE.out _))
          go_wp2_with (at_builtin; go_must (refine wpList_append_rd _ rfl _ _ _ rfl w.heap.size _ i0 _ 1 8 Try.underlying23 hi hz0 hz1 hz2 rfl (by omega) _ m _ rfl (World.ownsRow.alloc (w := wr.drewN nq) HO.out _) _ _ 1 1 _ rfl rfl (fun h => by cases h) (Rd.new _ _ _ _) (ints_one1 _ _) (by unfold maxLen; omega) (by omega) (by simp; omega) ?_); intro v2 w2 ho2 hg2 _; have HO2 := Lib.hid ho2; have HG2 := Lib.hid hg2; clear ho2 hg2)
          obtain ⟨A2, c2, rfl, _, _⟩ := row_shape HO2.out
          go_roundw
          case rel => exact ⟨k + 1, by omega, by go_num, m + 1, A2, c2, by rw [HE.out, List.length_append, ← HM.out]; rfl, rfl, by rw [HE.out]; simpa [zs] using HO2.out, ((below_drewN' HB.out nq).alloc hsz _).grown HG2.out (by simp; omega) (fun g h => (HO.out.lt g h).1)⟩
          case measure => simp [intOf]; omega
      · obtain rfl : k = p := by omega
        go_wp2_with fail
        refine (CP1.out _).mono ?_; rintro e w' ⟨rfl, rfl⟩
        go_wp2_with fail
        go_ret
        exact ⟨A1, c1, by rw [HC.out, ← HM.out]; rfl, by rw [HC.out, ← HM.out]; exact HO.out, HB.out⟩
  · have HC := Lib.hid (show chg xs us = [] by unfold chg; rw [if_neg hl])
    have g1 : ((xs.length : Int) != (us.length : Int)) = true := by rw [bne_iff_ne]; omega
    clear hl
    go_enter Try.func47, Try.ntmps47
    go_wp2_with fail
    go_ret
    exact ⟨none, 0, by rw [HC.out]; rfl, by rw [HC.out]; exact World.ownsRow_nil _ _ _ _, Below.refl _ _⟩
end Go.Proofs.Ytmefbkfapeijgaa
