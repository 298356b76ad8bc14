/- Paging: the law about separate page tables. -/
import Derived.Test.YtmefbkfapeijgaaPagF
namespace Go.Proofs.Ytmefbkfapeijgaa
open Go.RowKit

theorem wlk_other (xs : List Nat) (r s p q f g : Nat) (c : Int) (hp : p < 32) (hq : q < 32) (h : ¬ (r = s ∧ p = q)) : wlkV (mapW xs r p f g) s (128 * q) c = wlkV xs s (128 * q) c := by
  have e : pte (mapW xs r p f g) s (128 * q) = pte xs s (128 * q) := by
    unfold pte mapW
    split
    · rw [show (128 * q) / 128 = q by omega, List.getD_eq_getElem?_getD, List.getElem?_set_ne (by omega), List.getD_eq_getElem?_getD]
    · rfl
  unfold wlkV wlk wok
  rw [e, mapW_length]
theorem wlkV_trn (xs : List Nat) (s a : Nat) (c : Int) : ∃ (x y : Nat) (z : Int), wlkV xs s a c = trn x y z := ⟨_, _, _, rfl⟩

set_option maxRecDepth 100000 in
set_option maxHeartbeats 2000000 in
theorem separate_any (D : Option Addr) (d : Nat) (ls : List Int) (pages : Int) (one two page other frame flags : Nat) (access : Int) (w : World)
    (hp1 : -9223372036854775808 ≤ pages) (hp2 : pages ≤ 9223372036854775807) (h1 : one < 4294967296) (h2 : two < 4294967296) (h3 : page < 4294967296) (h4 : other < 4294967296) (h5 : frame < 4294967296) (h6 : flags < 4294967296) (hc1 : -9223372036854775808 ≤ access) (hc2 : access ≤ 9223372036854775807) (hd : Rd w w.heap.size D (zs ls)) :
    Calls Try.prog 15 #[.slice D ls.length d, .int .i64 pages, .int .u32 one, .int .u32 two, .int .u32 page, .int .u32 other, .int .u32 frame, .int .u32 flags, .int .i64 access] w fun e w' => e = .returned (.bool true) ∧ Below w.heap.size w w' := by
  have CT := Lib.hid (tables_len D d ls pages w hp1 hp2 hd)
  obtain ⟨c, hc, hc0, hc5⟩ : ∃ c, access % 3 = c ∧ 0 ≤ c ∧ c < 3 := ⟨_, rfl, Int.emod_nonneg _ (by omega), Int.emod_lt_of_pos _ (by omega)⟩
  have CR := Lib.hid fun W => flip (hc ▸ round_any access 3 W hc1 hc2 (by omega) (by omega))
  clear hd hp1 hp2 hc hc1 hc2
  go_enter Try.func15, Try.ntmps15
  go_wp2_with fail
  refine CT.out.mono ?_; rintro e w1 ⟨A1, c1, n, us, rfl, hcc, hlu, hwu, hn1, hn8, hn, hne, hr1, hb1⟩
  have HLU := Lib.hid hlu
  have HR := Lib.hid hr1
  have HWU := Lib.hid hwu
  clear hlu hr1 hwu hne
  have CP := Lib.hid fun W => rpages_any A1 n c1 W (by unfold maxLen; omega)
  obtain ⟨N, hN⟩ : ∃ N, pg n = N := ⟨_, rfl⟩
  rw [hN] at CP hn1 hn8
  obtain ⟨r, hr, hr9⟩ : ∃ r, one % N = r ∧ r < N := ⟨_, rfl, Nat.mod_lt _ (by omega)⟩
  obtain ⟨s, hs, hs9⟩ : ∃ s, two % N = s ∧ s < N := ⟨_, rfl, Nat.mod_lt _ (by omega)⟩
  obtain ⟨f, hf, hf9⟩ : ∃ f, frame % N = f ∧ f < N := ⟨_, rfl, Nat.mod_lt _ (by omega)⟩
  obtain ⟨p, hp, hp32⟩ : ∃ p, page % 32 = p ∧ p < 32 := ⟨_, rfl, Nat.mod_lt _ (by omega)⟩
  obtain ⟨q, hq, hq32⟩ : ∃ q, other % 32 = q ∧ q < 32 := ⟨_, rfl, Nat.mod_lt _ (by omega)⟩
  obtain ⟨g, hg, hg32⟩ : ∃ g, flags % 32 = g ∧ g < 32 := ⟨_, rfl, Nat.mod_lt _ (by omega)⟩
  have gr : (one : Int) % (N : Int) = (r : Int) := by rw [← hr]; exact (Int.natCast_emod _ _).symm
  have gs : (two : Int) % (N : Int) = (s : Int) := by rw [← hs]; exact (Int.natCast_emod _ _).symm
  have gf : (frame : Int) % (N : Int) = (f : Int) := by rw [← hf]; exact (Int.natCast_emod _ _).symm
  have gp : (page : Int) % 32 = (p : Int) := by omega
  have gq : (other : Int) % 32 = (q : Int) := by omega
  have gg : (flags : Int) % 32 = (g : Int) := by omega
  have HMO := Lib.hid (show mok n r p f g = true by unfold mok; rw [hN]; simp; omega)
  clear hr hf hp hg hs hq hN
  go_wp2_with fail
  refine (CP.out _).mono ?_; rintro e w' ⟨rfl, rfl⟩
  go_wp2_with fail
  have z1 : ¬ (N = 0) := by omega
  have z2 : ¬ ((N : Int) = 0) := by omega
  have z3 : ((N : Int) == 0) = false := by simpa using z1
  go_quiet ((go_at_call 26; exact quietC CR.out _ _))
  go_wp2_with fail
  rw [gr, gs, gf, gp, gq, gg]
  have HXL := Lib.hid (show (mapW us r p f g).length = n by rw [mapW_length]; exact HLU.out)
  have HXW := Lib.hid (HWU.out.mapW r p f g)
  have HV := Lib.hid (wlk_other us r s p q f g (1 + c) hp32 hq32)
  refine (map_at A1 c1 r p f g us HLU.out _ (by omega) (by omega) (by omega) (by omega) (by omega) (HR.out.drewN _) HWU.out).mono ?_
  rw [HMO.out]
  generalize mapW us r p f g = xs at HXL HXW HV ⊢
  rintro e w2 ⟨A2, c2, rfl, ho2, hb2⟩
  have HO2 := Lib.hid (row_rd ho2)
  clear ho2
  by_cases he : r = s ∧ p = q
  · obtain ⟨rfl, rfl⟩ := he
    go_wp2_with fail
    refine (awake5 _).mono ?_; rintro e w4 ⟨rfl, hb4⟩
    go_wp2_with fail
    go_ret
    exact ⟨rfl, (below_drewN' hb1 _).then (hb2.then hb4)⟩
  · have HV := Lib.hid (HV.out he)
    obtain ⟨x, y, z, hT⟩ := wlkV_trn us s (128 * q) (1 + c)
    rw [hT] at HV
    have HT := Lib.hid hT
    clear hT
    have gcmp : (((r : Int) == (s : Int)) = true ∧ ((p : Int) == (q : Int)) = false) ∨ ((r : Int) == (s : Int)) = false := by
      by_cases h : r = s
      · subst h; left; refine ⟨by simp, ?_⟩; rw [beq_eq_false_iff_ne]; omega
      · right; rw [beq_eq_false_iff_ne]; omega
    clear he
    rcases gcmp with ⟨k1, k2⟩ | k1
    all_goals
      go_wp2_with fail
      rw [show 128 * (q : Int) = ((128 * q : Nat) : Int) by omega]
      refine (walk_at A2 c2 s (128 * q) (1 + c) xs HXL.out _ (by omega) (by omega) (by omega) HO2.out HXW.out).mono ?_
      rw [HV.out]; rintro e w3 ⟨rfl, hb3⟩
      simp only [trn]
      go_wp2_with fail
      try rw [show 128 * (q : Int) = ((128 * q : Nat) : Int) by omega]
      refine (walk_at A1 c1 s (128 * q) (1 + c) us HLU.out _ (by omega) (by omega) (by omega) (((HR.out.drewN _).upto hb2).upto hb3) HWU.out).mono ?_
      rw [HT.out]; rintro e w4 ⟨rfl, hb4⟩
      simp only [trn]
      go_wp2_with fail
      refine (awake5 _).mono ?_; rintro e w5 ⟨rfl, hb5⟩
      go_wp2_with fail
      go_ret
      exact ⟨rfl, (below_drewN' hb1 _).then (hb2.then (hb3.then (hb4.then hb5)))⟩
end Go.Proofs.Ytmefbkfapeijgaa
