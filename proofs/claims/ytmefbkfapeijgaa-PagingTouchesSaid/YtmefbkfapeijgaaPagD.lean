/- Paging: the memory that the laws make out of their numbers. -/
import Derived.Test.YtmefbkfapeijgaaPagC
namespace Go.Proofs.Ytmefbkfapeijgaa
open Go.RowKit

theorem u32_nat (x : Int) : ∃ v : Nat, x % 4294967296 = (v : Int) ∧ v < 4294967296 := ⟨(x % 4294967296).toNat, by omega, by omega⟩
theorem or32 (x y : Int) (hx : 0 ≤ x) (hx2 : x < 4294967296) (hy : 0 ≤ y) (hy2 : y < 4294967296) : ∃ v : Nat, bits BinOp.or IntKind.u32 x y = (v : Int) ∧ v < 4294967296 := by
  obtain ⟨a, rfl⟩ := Int.eq_ofNat_of_zero_le hx
  obtain ⟨b, rfl⟩ := Int.eq_ofNat_of_zero_le hy
  exact ⟨a ||| b, u32_or_nat _ _ (by omega) (by omega), or_lt _ _ (by omega) (by omega)⟩

set_option maxRecDepth 100000 in
set_option maxHeartbeats 1000000 in
theorem tables_any (D : Option Addr) (d : Nat) (ls : List Int) (pages : Int) (w : World) (hp1 : -9223372036854775808 ≤ pages) (hp2 : pages ≤ 9223372036854775807)
    (hd : Rd w w.heap.size D (zs ls)) :
    Calls Try.prog 68 #[.slice D ls.length d, .int .i64 pages] w fun e w' => ∃ A' c' us, e = .returned (.slice A' (List.length us) c') ∧ List.length us ≤ c' ∧ Wd us ∧ us.length = 32 * (1 + (pages % 8).toNat) ∧ Rd w' w'.heap.size A' (ws us) ∧ Below w.heap.size w w' := by
  have hm0 := Int.emod_nonneg pages (show (8 : Int) ≠ 0 by omega)
  have hm1 := Int.emod_lt_of_pos pages (show (0 : Int) < 8 by omega)
  obtain ⟨q, hq⟩ : ∃ q, q = pages % 8 := ⟨_, rfl⟩
  rw [← hq] at hm0 hm1
  have hr : ∀ W, Calls Try.prog 26 #[.int .i64 pages, .int .i64 8] W fun e w' => e = .returned (.int .i64 q) ∧ W = w' := fun W => by rw [hq]; exact round_any _ _ _ hp1 hp2 (by omega) (by omega)
  have HR := Lib.hid hr
  have HQ := Lib.hid hq
  have HD := Lib.hid hd
  clear hr hq hp1 hp2 hd
  have e2 : newN (1 + q) = 32 * (1 + q.toNat) := by unfold newN; rw [if_pos (by omega)]; omega
  obtain ⟨m, hm⟩ : ∃ m, m = 32 * (1 + q.toNat) := ⟨_, rfl⟩
  have hm2 : 1 ≤ m := by omega
  have hm3 : m ≤ 256 := by omega
  have HM := Lib.hid (show m = 32 * (1 + (pages % 8).toNat) by rw [← HQ.out]; exact hm)
  have E2 := Lib.hid (e2.trans hm.symm)
  clear e2 hm
  go_enter Try.func68, Try.ntmps68
  go_wp2_with (first | (go_at_call 26; refine (HR.out _).mono ?_; rintro e w' ⟨rfl, rfl⟩) | (go_at_call 35; refine (rnew_any _ _).mono ?_; rintro e w1 ⟨A1, c1, rfl, ho, hb⟩; rw [E2.out] at ho ⊢; obtain ⟨g, rfl, hg1, hg2⟩ := row_get ho (by omega)))
  have hc1 : m ≤ c1 := by
    obtain ⟨_, _, hv, h1, _⟩ := row_shape ho
    injection hv with _ _ hv
    rw [hv]; exact h1
  have HO := Lib.hid ho
  have HB := Lib.hid hb
  clear ho hb
  go_loopw [6] (fun i wr => ∃ k : Nat, k ≤ ls.length ∧ i = .int .i64 k ∧ ∃ us, wr.ownsRow w.heap.size 24 1 (.slice (some ⟨g, 0, none⟩) m c1) m (ws us) ∧ Wd us ∧ Below w.heap.size w wr) (fun i _ => ls.length - (intOf i).toNat)
  case atStart => exact ⟨0, Nat.zero_le _, rfl, _, HO.out, Wd.rep _, HB.out⟩
  case round =>
    obtain ⟨k, hk, rfl, us, ho, hw, hb⟩ := hrel
    have hlu : us.length = m := by have := ho.1; simpa using this
    by_cases hlt : k < ls.length
    · by_cases h60 : k < 60
      · have g60 : decide ((k : Int) < 60) = true := by simp; omega
        obtain ⟨b, off, rfl, hb1, hcell⟩ := (HD.out.below hb (Nat.le_refl _)).at_ k (by simpa using hlt)
        rw [zs_get _ _ hlt] at hcell
        generalize ls.getD k 0 = l at hcell
        obtain ⟨y, e5, h5a, h5b⟩ : ∃ y, mix l 9 = y ∧ 0 ≤ y ∧ y ≤ 9223372036854775807 := ⟨_, rfl, mix_range _ _⟩
        have C5 := Lib.hid (fun W => (e5 ▸ mix_any l 9 W))
        obtain ⟨x1, e1, h1a, h1b⟩ : ∃ z, y % (m : Int) = z ∧ 0 ≤ z ∧ z < m := ⟨_, rfl, Int.emod_nonneg _ (by omega), Int.emod_lt_of_pos _ (by omega)⟩
        have C1 := Lib.hid (fun W => (e1 ▸ round_any y m W (by omega) (by omega) (by omega) (by omega)))
        clear e5 e1
        obtain ⟨x, rfl⟩ := Int.eq_ofNat_of_zero_le h1a
        have hxm : x < m := by omega
        have hcx := (ho.cellAt x (by omega)).trans (ws_get us x (by omega))
        have hfx := ho.frozenAt x
        generalize us.getD x 0 = ox at hcx
        have HOr := Lib.hid ho
        clear ho hlu
        have HBr := Lib.hid hb
        clear hb
        go_wp2_with fail
        refine (C5.out _).mono ?_; rintro e w' ⟨rfl, rfl⟩
        go_wp2_with fail
        refine (C1.out _).mono ?_; rintro e w' ⟨rfl, rfl⟩
        go_wp2_with fail
        all_goals
          obtain ⟨v, hv, hv2⟩ := or32 (bits BinOp.and IntKind.i64 (y / 65536) 31 % 4294967296) (bits BinOp.and IntKind.i64 (y / 16777216) 15 % 4294967296 * 256 % 4294967296) (by omega) (by omega) (by omega) (by omega)
          obtain ⟨v2, hu, hu2⟩ := u32_nat (bits BinOp.and IntKind.i64 (y / 1048576) 4294967295)
          rw [hv]
          try rw [hu]
          refine ⟨⟨k + 1, by omega, by go_num, ?_⟩, by simp [intOf]; omega⟩
        · have h1 := (HOr.out.stored x (.int .u32 v)).1
          rw [ws_set] at h1
          exact ⟨(us.set x v).set x v2, by rw [← ws_set]; exact (h1.stored x _).1, (hw.set _ _ hv2).set _ _ hu2, ((HBr.out).setCell (p := ⟨g, x, none⟩) hg1 _).setCell (p := ⟨g, x, none⟩) hg1 _⟩
        · exact ⟨us.set x v, by rw [← ws_set]; exact (HOr.out.stored x _).1, hw.set _ _ hv2, (HBr.out).setCell (p := ⟨g, x, none⟩) hg1 _⟩
      · have g60 : decide ((k : Int) < 60) = false := by simp; omega
        go_wp2
        go_ret
        exact ⟨_, _, us, by rw [hlu]; rfl, by rw [hlu]; exact hc1, hw, by rw [hlu]; exact HM.out, row_rd ho, hb⟩
    · go_wp2
      go_ret
      exact ⟨_, _, us, by rw [hlu]; rfl, by rw [hlu]; exact hc1, hw, by rw [hlu]; exact HM.out, row_rd ho, hb⟩

theorem pnew2 (w : World) : Calls Try.prog 35 #[.int .i64 2] w fun e w' => ∃ A c, e = .returned (.slice A 64 c) ∧ w'.ownsRow w.heap.size 24 1 (.slice A 64 c) 64 (ws (List.replicate 64 0)) ∧ Below w.heap.size w w' := by
  refine (rnew_any 2 w).mono ?_
  rintro e w' ⟨A, c, rfl, ho, hb⟩
  exact ⟨A, c, rfl, ho, hb⟩

/-- The contracts at a length that is told apart. -/
theorem walk_at {n : Nat} (A : Option Addr) (c root va : Nat) (a : Int) (xs : List Nat) (hx : xs.length = n) (w : World) (hn : n ≤ 1048576) (hroot : root < 4294967296) (hva : va < 4294967296) (hr : Rd w w.heap.size A (ws xs)) (hw : Wd xs) :
    Calls Try.prog 70 #[.slice A n c, .int .u32 root, .int .u32 va, .int .i64 a] w fun e w' => e = .returned (wlkV xs root va a) ∧ Below w.heap.size w w' := by
  subst hx; exact walk_any A c root va a xs w hn hroot hva hr hw
theorem map_at {n : Nat} (A : Option Addr) (c root page frame flags : Nat) (xs : List Nat) (hx : xs.length = n) (w : World) (hn : n ≤ 1048576) (h1 : root < 4294967296) (h2 : page < 4294967296) (h3 : frame < 4294967296) (h4 : flags < 4294967296) (hr : Rd w w.heap.size A (ws xs)) (hw : Wd xs) :
    Calls Try.prog 69 #[.slice A n c, .int .u32 root, .int .u32 page, .int .u32 frame, .int .u32 flags] w (WsOk n (mok n root page frame flags) (mapW xs root page frame flags) w) := by
  subst hx; exact map_any A c root page frame flags xs w hn h1 h2 h3 h4 hr hw
theorem touch_at {n : Nat} (A : Option Addr) (c e : Nat) (a : Int) (xs : List Nat) (hx : xs.length = n) (w : World) (hn : n ≤ 1048576) (he : e < 4294967296) (hr : Rd w w.heap.size A (ws xs)) (hw : Wd xs) :
    Calls Try.prog 73 #[.slice A n c, .int .u32 e, .int .i64 a] w (WsOut n (tchW xs e a) w) := by
  subst hx; exact touch_any A c e a xs w hn he hr hw

set_option maxRecDepth 100000 in
set_option maxHeartbeats 400000 in
theorem awake5 (w : World) : Calls Try.prog 71 #[] w fun e w' => e = .returned (.bool true) ∧ Below w.heap.size w w' := by
  have C2 := Lib.hid fun W => pnew2 W
  obtain ⟨us, hus⟩ : ∃ us, us = mapW (List.replicate 64 0) 0 3 1 1 := ⟨_, rfl⟩
  have hul : us.length = 64 := by rw [hus, mapW_length]; rfl
  have hw : Wd us := hus ▸ (Wd.rep 64).mapW 0 3 1 1
  have HM := Lib.hid (show ∀ (A : Option Addr) (c : Nat) (W : World), Rd W W.heap.size A (ws (List.replicate 64 0)) → Calls Try.prog 69 #[.slice A 64 c, .int .u32 0, .int .u32 3, .int .u32 1, .int .u32 1] W (WsOk 64 true us W) from fun A c W hr => by
    rw [hus]; exact map_at (n := 64) A c 0 3 1 1 (List.replicate 64 0) rfl W (by omega) (by omega) (by omega) (by omega) (by omega) hr (Wd.rep 64))
  have HW1 := Lib.hid (show ∀ (A : Option Addr) (c : Nat) (W : World), Rd W W.heap.size A (ws us) → Calls Try.prog 70 #[.slice A 64 c, .int .u32 0, .int .u32 389, .int .i64 2] W fun e w' => e = .returned (.agg #[.int .u32 133, .int .u32 12, .int .i64 0]) ∧ Below W.heap.size W w' from fun A c W hr => by
    have h := walk_at (n := 64) A c 0 389 2 us hul W (by omega) (by omega) (by omega) hr hw
    have e : wlkV us 0 389 2 = .agg #[.int .u32 133, .int .u32 12, .int .i64 0] := by rw [hus]; rfl
    rw [e] at h; exact h)
  have HW2 := Lib.hid (show ∀ (A : Option Addr) (c : Nat) (W : World), Rd W W.heap.size A (ws us) → Calls Try.prog 70 #[.slice A 64 c, .int .u32 0, .int .u32 5, .int .i64 2] W fun e w' => e = .returned (.agg #[.int .u32 0, .int .u32 0, .int .i64 5]) ∧ Below W.heap.size W w' from fun A c W hr => by
    have h := walk_at (n := 64) A c 0 5 2 us hul W (by omega) (by omega) (by omega) hr hw
    have e : wlkV us 0 5 2 = .agg #[.int .u32 0, .int .u32 0, .int .i64 5] := by rw [hus]; rfl
    rw [e] at h; exact h)
  clear hus hul hw
  go_enter Try.func71, Try.ntmps71
  go_wp2_with fail
  refine (C2.out _).mono ?_; rintro e w1 ⟨A1, c1, rfl, ho1, hb1⟩
  have HO1 := Lib.hid ho1
  clear ho1
  go_wp2_with fail
  refine (HM.out _ _ _ (row_rd HO1.out)).mono ?_; rintro e w2 ⟨A2, c2, rfl, ho2, hb2⟩
  have HO2 := Lib.hid (row_rd ho2)
  clear ho2
  go_wp2_with fail
  refine (HW1.out _ _ _ HO2.out).mono ?_; rintro e w3 ⟨rfl, hb3⟩
  have HO3 := Lib.hid (HO2.out.below hb3 (Nat.le_refl _))
  go_wp2_with fail
  have hs3 := hb3.size
  refine (HW2.out _ _ _ ((HO3.out.alloc hs3 _).more (by simp; omega))).mono ?_; rintro e w4 ⟨rfl, hb4⟩
  have hfd : ∀ w : World, (Instr.field 82 (.agg #[.int .u32 0, .int .u32 0, .int .i64 5]) 2).run Try.prog w = .ok (.int .i64 5) w := fun _ => by kernel_rfl
  go_wp2_with fail
  go_ret
  have hs1 := hb1.size
  have hs2 := hb2.size
  simp at hb4
  exact ⟨rfl, (((hb1.trans (hb2.mono hs1)).trans (hb3.mono (by omega))).alloc (by omega) _).trans (hb4.mono (by omega))⟩
end Go.Proofs.Ytmefbkfapeijgaa
