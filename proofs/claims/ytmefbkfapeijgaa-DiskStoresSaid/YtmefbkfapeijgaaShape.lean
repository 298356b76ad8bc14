/- The memory that a law makes out of its numbers. -/
import Derived.Test.YtmefbkfapeijgaaMemD
import Derived.Test.YtmefbkfapeijgaaMake
import Derived.StillTailTactics
namespace Go.Proofs.Ytmefbkfapeijgaa
open Go.RowKit

/-- The words that 'shaped' hands back: the ones that came in, or some of a memory's size. -/
def Shp (raw : Bool) (pages : Int) (xs us : List Nat) : Prop :=
  Wd us ∧ ((raw = true ∧ xs.length ≤ 200 ∧ us = xs) ∨ (us.length = 32 * (1 + (pages % 6).toNat) ∧ ¬ (raw = true ∧ xs.length ≤ 200)))
theorem Shp.len {raw : Bool} {pages : Int} {xs us : List Nat} (h : Shp raw pages xs us) : us.length ≤ 200 := by
  rcases h.2 with ⟨_, h1, rfl⟩ | ⟨h1, _⟩
  · exact h1
  · have := Int.emod_lt_of_pos pages (show (0 : Int) < 6 by omega)
    omega

set_option maxRecDepth 100000 in
set_option maxHeartbeats 1000000 in
theorem shaped_made (A D : Option Addr) (c d : Nat) (n : Nat) (raw : Bool) (ls : List Int) (pages : Int) (w : World) (hp1 : -9223372036854775808 ≤ pages) (hp2 : pages ≤ 9223372036854775807)
    (hd : Rd w w.heap.size D (zs ls)) (hraw : (raw && decide ((n : Int) ≤ 200)) = false) :
    Calls Try.prog 25 #[.slice A n c, .bool raw, .slice D ls.length d, .int .i64 pages] w fun e w' => ∃ A' c' us, e = .returned (.slice A' (List.length us) c') ∧ List.length us ≤ c' ∧ Wd us ∧ us.length = 32 * (1 + (pages % 6).toNat) ∧ Rd w' w'.heap.size A' (ws us) ∧ Below w.heap.size w w' := by
  have hm0 := Int.emod_nonneg pages (show (6 : Int) ≠ 0 by omega)
  have hm1 := Int.emod_lt_of_pos pages (show (0 : Int) < 6 by omega)
  obtain ⟨q, hq⟩ : ∃ q, q = pages % 6 := ⟨_, rfl⟩
  rw [← hq] at hm0 hm1
  have hr : ∀ W, Calls Try.prog 26 #[.int .i64 pages, .int .i64 6] W fun e w' => e = .returned (.int .i64 q) ∧ W = w' := fun W => by rw [hq]; exact round_any _ _ _ hp1 hp2 (by omega) (by omega)
  have HR := Lib.hid hr
  have HQ := Lib.hid hq
  have HD := Lib.hid hd
  clear hr hq hp1 hp2 hd
  have hg : raw = false ∨ (raw = true ∧ decide ((n : Int) ≤ 200) = false) := by cases raw <;> simp_all
  have e2 : newN (1 + q) = 32 * (1 + q.toNat) := by unfold newN; rw [if_pos (by omega)]; omega
  obtain ⟨m, hm⟩ : ∃ m, m = 32 * (1 + q.toNat) := ⟨_, rfl⟩
  have hm2 : 1 ≤ m := by omega
  have hm3 : m ≤ 192 := by omega
  have HM := Lib.hid (show m = 32 * (1 + (pages % 6).toNat) by rw [← HQ.out]; exact hm)
  have E2 := Lib.hid (e2.trans hm.symm)
  clear hraw e2 hm
  rcases hg with rfl | ⟨rfl, hg⟩
  all_goals
    go_enter Try.func25, Try.ntmps25
    go_wp2_with (first | (go_at_call 26; refine (HR.out _).mono ?_; rintro e w' ⟨rfl, rfl⟩) | (go_at_call 35; refine (rnew_any _ _).mono ?_; rintro e w1 ⟨A1, c1, rfl, ho, hb⟩; rw [E2.out] at ho ⊢; obtain ⟨g, rfl, hg1, hg2⟩ := row_get ho (by omega)))
    have hc1 : m ≤ c1 := by
      obtain ⟨_, _, hv, h1, _⟩ := row_shape ho
      injection hv with _ _ hv
      rw [hv]; exact h1
    have HO := Lib.hid ho
    have HB := Lib.hid hb
    clear ho hb
    go_loopw [10] (fun i wr => ∃ k : Nat, k ≤ ls.length ∧ i = .int .i64 k ∧ ∃ us, wr.ownsRow w.heap.size 24 1 (.slice (some ⟨g, 0, none⟩) m c1) m (ws us) ∧ Wd us ∧ Below w.heap.size w wr) (fun i _ => ls.length - (intOf i).toNat)
    case atStart => exact ⟨0, Nat.zero_le _, rfl, _, HO.out, Wd.rep _, HB.out⟩
    case round =>
      obtain ⟨k, hk, rfl, us, ho, hw, hb⟩ := hrel
      have hlu : us.length = m := by have := ho.1; simpa using this
      by_cases hlt : k < ls.length
      · by_cases h40 : k < 40
        · have g40 : decide ((k : Int) < 40) = true := by simp; omega
          obtain ⟨b, off, rfl, hb1, hcell⟩ := (HD.out.below hb (Nat.le_refl _)).at_ k (by simpa using hlt)
          rw [zs_get _ _ hlt] at hcell
          generalize ls.getD k 0 = l at hcell
          obtain ⟨y5, e5, h5a, h5b⟩ : ∃ y, mix l 5 = y ∧ 0 ≤ y ∧ y ≤ 9223372036854775807 := ⟨_, rfl, mix_range _ _⟩
          obtain ⟨y6, e6, h6a, h6b⟩ : ∃ y, mix l 6 = y ∧ 0 ≤ y ∧ y ≤ 9223372036854775807 := ⟨_, rfl, mix_range _ _⟩
          have C5 := Lib.hid (fun W => flip (e5 ▸ mix_any l 5 W))
          have C6 := Lib.hid (fun W => flip (e6 ▸ mix_any l 6 W))
          obtain ⟨x1, e1, h1a, h1b⟩ : ∃ y, y5 % (m : Int) = y ∧ 0 ≤ y ∧ y < m := ⟨_, rfl, Int.emod_nonneg _ (by omega), Int.emod_lt_of_pos _ (by omega)⟩
          have C1 := Lib.hid (fun W => flip (e1 ▸ round_any y5 m W (by omega) (by omega) (by omega) (by omega)))
          clear e5 e6 e1 h5a h5b
          obtain ⟨x, rfl⟩ := Int.eq_ofNat_of_zero_le h1a
          have hxm : x < m := by omega
          have hcx := (ho.cellAt x (by omega)).trans (ws_get us x (by omega))
          have hfx := ho.frozenAt x
          generalize us.getD x 0 = ox at hcx
          have HOr := Lib.hid ho
          clear ho hlu
          have HBr := Lib.hid hb
          clear hb
          go_wp2_with fail
          refine wp_region_still_tail 17 (by kernel_rfl) (by kernel_rfl) ?_
          simp only [List.take_succ_cons, List.take_zero, List.drop_succ_cons, List.drop_zero]
          iterate 5 still_step
          still_call (C5.out _)
          iterate 2 still_step
          still_call (C1.out _)
          iterate 4 still_step
          still_call (C6.out _)
          iterate 3 still_step
          refine wpStill_nil ?_
          change wpList _ _ _ _ _ wr.drew
          obtain ⟨v, hv, hv2⟩ : ∃ v : Nat, bits BinOp.and IntKind.i64 y6 4294967295 % 4294967296 = (v : Int) ∧ v < 4294967296 := ⟨(bits BinOp.and IntKind.i64 y6 4294967295 % 4294967296).toNat, by omega, by omega⟩
          have Hv := Lib.hid hv
          clear hv
          go_wp2
          rw [Hv.out]
          go_roundw
          case rel => exact ⟨k + 1, by omega, by go_num, us.set x v, World.ownsRow.drew (by rw [← ws_set]; exact (HOr.out.stored x _).1), hw.set _ _ hv2, ((HBr.out).setCell (p := ⟨g, x, none⟩) hg1 _).drew⟩
          case measure => simp [intOf]; omega
        · have g40 : decide ((k : Int) < 40) = false := by simp; omega
          go_wp2
          go_ret
          exact ⟨_, _, us, by rw [hlu]; rfl, by rw [hlu]; exact hc1, hw, by rw [hlu]; exact HM.out, row_rd ho, hb⟩
      · go_wp2
        go_ret
        exact ⟨_, _, us, by rw [hlu]; rfl, by rw [hlu]; exact hc1, hw, by rw [hlu]; exact HM.out, row_rd ho, hb⟩

set_option maxHeartbeats 400000 in
theorem shaped_raw (A D : Option Addr) (c d m : Nat) (n : Nat) (pages : Int) (w : World) (hn : n ≤ 200) :
    Calls Try.prog 25 #[.slice A n c, .bool true, .slice D m d, .int .i64 pages] w fun e w' => e = .returned (.slice A n c) ∧ w = w' := by
  have hg : decide ((n : Int) ≤ 200) = true := by simp; omega
  go_enter Try.func25, Try.ntmps25
  go_wp2_with fail
  go_ret
  exact ⟨rfl, rfl⟩

theorem shaped_any (A D : Option Addr) (c d : Nat) (xs : List Nat) (raw : Bool) (ls : List Int) (pages : Int) (w : World) (hp1 : -9223372036854775808 ≤ pages) (hp2 : pages ≤ 9223372036854775807)
    (hc : xs.length ≤ c) (hr : Rd w w.heap.size A (ws xs)) (hw : Wd xs) (hd : Rd w w.heap.size D (zs ls)) :
    Calls Try.prog 25 #[.slice A xs.length c, .bool raw, .slice D ls.length d, .int .i64 pages] w fun e w' => ∃ A' c' us, e = .returned (.slice A' (List.length us) c') ∧ List.length us ≤ c' ∧ Shp raw pages xs us ∧ Rd w' w'.heap.size A' (ws us) ∧ Below w.heap.size w w' := by
  by_cases h : raw = true ∧ xs.length ≤ 200
  · obtain ⟨rfl, h2⟩ := h
    refine (shaped_raw A D c d ls.length xs.length pages w h2).mono ?_
    rintro e w' ⟨rfl, rfl⟩
    exact ⟨_, _, xs, rfl, hc, ⟨hw, .inl ⟨rfl, h2, rfl⟩⟩, hr, Below.refl _ _⟩
  · refine (shaped_made A D c d xs.length raw ls pages w hp1 hp2 hd (by cases raw <;> simp_all <;> omega)).mono ?_
    rintro e w' ⟨A', c', us, rfl, hcc, h1, h2, h3, h4⟩
    exact ⟨_, _, us, rfl, hcc, ⟨h1, .inr ⟨h2, h⟩⟩, h3, h4⟩

/-- The contracts at a length that is told apart. -/
theorem load_at {n : Nat} (A : Option Addr) (c addr : Nat) (size : Int) (xs : List Nat) (hx : xs.length = n) (w : World) (hn : n ≤ 35184372087808) (ha : addr < 4294967296) (hr : Rd w w.heap.size A (ws xs)) (hw : Wd xs) :
    Calls Try.prog 27 #[.slice A n c, .int .u32 addr, .int .i64 size] w fun e w' => e = .returned (.tuple #[.int .u32 (ldv xs addr size : Nat), .bool (win n addr size)]) ∧ w = w' := by
  subst hx; exact load_any A c addr size xs w (by unfold maxLen; omega) ha hr hw
theorem store_at {n : Nat} (A : Option Addr) (c addr : Nat) (size : Int) (v : Nat) (xs : List Nat) (hx : xs.length = n) (w : World) (hn : n ≤ 35184372087808) (ha : addr < 4294967296) (hv : v < 4294967296) (hr : Rd w w.heap.size A (ws xs)) (hw : Wd xs) :
    Calls Try.prog 29 #[.slice A n c, .int .u32 addr, .int .i64 size, .int .u32 v] w fun e w' => ∃ A' c', e = .returned (.tuple #[.slice A' n c', .bool (win n addr size)]) ∧
      w'.ownsRow w.heap.size 24 1 (.slice A' n c') n (ws (stv xs addr size v)) ∧ Below w.heap.size w w' := by
  subst hx; exact store_any A c addr size v xs w hn ha hv hr hw

theorem new0 (w : World) : Calls Try.prog 34 #[.int .i64 0] w fun e w' => ∃ A c, e = .returned (.slice A 0 c) ∧ Below w.heap.size w w' := by
  refine (new_any 0 w).mono ?_
  rintro e w' ⟨A, c, rfl, _, hb⟩
  exact ⟨A, c, rfl, hb⟩
theorem new1 (w : World) : Calls Try.prog 34 #[.int .i64 1] w fun e w' => ∃ A c, e = .returned (.slice A 32 c) ∧ w'.ownsRow w.heap.size 24 1 (.slice A 32 c) 32 (ws (List.replicate 32 0)) ∧ Below w.heap.size w w' := by
  refine (new_any 1 w).mono ?_
  rintro e w' ⟨A, c, rfl, ho, hb⟩
  exact ⟨A, c, rfl, ho, hb⟩

set_option maxHeartbeats 400000 in
theorem awake4 (w : World) : Calls Try.prog 36 #[] w fun e w' => e = .returned (.bool true) ∧ Below w.heap.size w w' := by
  have C0 := Lib.hid fun W => new0 W
  have C1 := Lib.hid fun W => new1 W
  have CS : ∀ (A : Option Addr) (c : Nat) (W : World), Rd W W.heap.size A (ws (List.replicate 32 0)) → Calls Try.prog 29 #[.slice A 32 c, .int .u32 5, .int .i64 1, .int .u32 511] W fun e w' => ∃ A' c', e = .returned (.tuple #[.slice A' 32 c', .bool true]) ∧
      w'.ownsRow W.heap.size 24 1 (.slice A' 32 c') 32 (ws (stv (List.replicate 32 0) 5 1 511)) ∧ Below W.heap.size W w' := fun A c W hr => store_at (n := 32) A c 5 1 511 (List.replicate 32 0) rfl W (by omega) (by omega) (by omega) hr (Wd.rep 32)
  have CL : ∀ (A : Option Addr) (c : Nat) (W : World), Rd W W.heap.size A (ws (stv (List.replicate 32 0) 5 1 511)) → Calls Try.prog 27 #[.slice A 32 c, .int .u32 4, .int .i64 4] W fun e w' => e = .returned (.tuple #[.int .u32 65280, .bool true]) ∧ W = w' := fun A c W hr =>
    load_at (n := 32) A c 4 4 (stv (List.replicate 32 0) 5 1 511) (by decide) W (by omega) (by omega) hr (Wd.stv (Wd.rep 32) _ _ _ (by omega))
  have CP : ∀ (A : Option Addr) (c : Nat) (W : World), Calls Try.prog 32 #[.slice A 32 c] W fun e w' => e = .returned (.int .i64 1) ∧ W = w' := fun A c W => pages_any A 32 c W (by unfold maxLen; omega)
  have HS := Lib.hid CS
  have HL := Lib.hid CL
  have HP := Lib.hid CP
  clear CS CL CP
  go_enter Try.func36, Try.ntmps36
  go_wp2_with fail
  refine (C1.out _).mono ?_; rintro e w1 ⟨A1, c1, rfl, ho1, hb1⟩
  have HO1 := Lib.hid ho1
  clear ho1
  go_wp2_with fail
  refine (HS.out _ _ _ (row_rd HO1.out)).mono ?_; rintro e w2 ⟨A2, c2, rfl, ho2, hb2⟩
  have HO2 := Lib.hid ho2
  clear ho2
  go_wp2_with fail
  refine (HL.out _ _ _ (row_rd HO2.out)).mono ?_; rintro e w3 ⟨rfl, rfl⟩
  go_wp2_with fail
  refine (HP.out _ _ _).mono ?_; rintro e w3 ⟨rfl, rfl⟩
  go_wp2_with fail
  refine (C0.out _).mono ?_; rintro e w4 ⟨A4, c4, rfl, hb4⟩
  go_wp2_with fail
  go_ret
  exact ⟨rfl, (hb1.trans (hb2.mono hb1.size)).trans (hb4.mono (Nat.le_trans hb1.size hb2.size))⟩
end Go.Proofs.Ytmefbkfapeijgaa
