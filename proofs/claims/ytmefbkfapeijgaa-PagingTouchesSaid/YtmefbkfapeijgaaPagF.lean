/- Paging: the law about what a mapping leads to. -/
import Derived.Test.YtmefbkfapeijgaaPagE
namespace Go.Proofs.Ytmefbkfapeijgaa
open Go.RowKit

/-- What a call in a quiet region owes. -/
theorem quietC {P : Program} {f : FuncId} {args : Array Value} {v : Value} (h : ∀ W, Calls P f args W fun e w' => e = .returned v ∧ w' = W) (w1 : World) (n : Nat) : Calls P f args (w1.drewN n) fun e w'' => e = .returned v ∧ ∃ n, w'' = w1.drewN n := (h _).mono fun _ _ ⟨a, b⟩ => ⟨a, _, b⟩
theorem per_low (f g : Nat) (c : Int) : per (256 * f + g) c = per g c := by
  unfold per
  rw [show (256 * f + g) % 2 = g % 2 by omega, show (256 * f + g) / 2 % 2 = g / 2 % 2 by omega, show (256 * f + g) / 4 % 2 = g / 4 % 2 by omega]
theorem pte_map (xs : List Nat) (r p f g o : Nat) (h : mok xs.length r p f g = true) (ho : o < 128) : pte (mapW xs r p f g) r (128 * p + o) = 256 * f + g := by
  obtain ⟨h1, h2, h3, h4⟩ := mok_spec h
  have hp0 := pg_pos xs.length (by omega)
  unfold pte mapW
  rw [h, if_pos rfl, show (128 * p + o) / 128 = p by omega, List.getD_eq_getElem?_getD, List.getElem?_set_self (by omega)]
  rfl
theorem wlk_map (xs : List Nat) (r p f g o : Nat) (c : Int) (h : mok xs.length r p f g = true) (ho : o < 128) (hk : knw c = true) :
    wlkV (mapW xs r p f g) r (128 * p + o) c = if per g c then trn (128 * f + o) (128 * r + 4 * p) 0 else trn 0 0 (cau c) := by
  obtain ⟨h1, h2, h3, h4⟩ := mok_spec h
  have hl := pg_le xs.length
  have e1 : get8 (256 * f + g) 8 = f := by unfold get8; omega
  unfold wlkV wlk wok
  rw [pte_map xs r p f g o h ho, hk, mapW_length, e1, per_low, decide_eq_true (show 128 * p + o < 4096 by omega), decide_eq_true h1, decide_eq_true h2, show (128 * p + o) % 128 = o by omega, show (128 * p + o) / 128 = p by omega]
  cases per g c <;> rfl

theorem pg_tab (q : Nat) (h : q < 8) : pg (32 * (1 + q)) = 1 + q := by unfold pg; rw [if_pos (by omega)]; omega

/-- The tables, with their length told apart. -/
theorem tables_len (D : Option Addr) (d : Nat) (ls : List Int) (pages : Int) (w : World) (hp1 : -9223372036854775808 ≤ pages) (hp2 : pages ≤ 9223372036854775807) (hd : Rd w w.heap.size D (zs ls)) :
    Calls Try.prog 68 #[.slice D ls.length d, .int .i64 pages] w fun e w' => ∃ A' c' n us, e = .returned (.slice A' n c') ∧ n ≤ c' ∧ List.length us = n ∧ Wd us ∧ 1 ≤ pg n ∧ pg n ≤ 8 ∧ n ≤ 256 ∧ n = 32 * pg n ∧ Rd w' w'.heap.size A' (ws us) ∧ Below w.heap.size w w' := by
  refine (tables_any D d ls pages w hp1 hp2 hd).mono ?_
  rintro e w1 ⟨A1, c1, us, rfl, hcc, hwu, hlu, hr1, hb1⟩
  have h5 := Int.emod_lt_of_pos pages (show (0 : Int) < 8 by omega)
  have h6 := pg_tab (pages % 8).toNat (by omega)
  rw [← hlu] at h6
  exact ⟨A1, c1, us.length, us, rfl, hcc, rfl, hwu, by omega, by omega, by omega, by omega, hr1, hb1⟩

set_option maxRecDepth 100000 in
set_option maxHeartbeats 2000000 in
theorem leads_any (D : Option Addr) (d : Nat) (ls : List Int) (pages : Int) (root page frame flags offset : Nat) (access : Int) (w : World)
    (hp1 : -9223372036854775808 ≤ pages) (hp2 : pages ≤ 9223372036854775807) (hroot : root < 4294967296) (hpage : page < 4294967296) (hframe : frame < 4294967296) (hflags : flags < 4294967296) (hoff : offset < 4294967296) (hc1 : -9223372036854775808 ≤ access) (hc2 : access ≤ 9223372036854775807) (hd : Rd w w.heap.size D (zs ls)) :
    Calls Try.prog 14 #[.slice D ls.length d, .int .i64 pages, .int .u32 root, .int .u32 page, .int .u32 frame, .int .u32 flags, .int .u32 offset, .int .i64 access] w fun e w' => e = .returned (.bool true) ∧ Below w.heap.size w w' := by
  have CT := Lib.hid (tables_len D d ls pages w hp1 hp2 hd)
  obtain ⟨c, hc, hc0, hc5⟩ : ∃ c, access % 3 = c ∧ 0 ≤ c ∧ c < 3 := ⟨_, rfl, Int.emod_nonneg _ (by omega), Int.emod_lt_of_pos _ (by omega)⟩
  have CR := Lib.hid fun W => flip (hc ▸ round_any access 3 W hc1 hc2 (by omega) (by omega))
  clear hd hp1 hp2 hc hc1 hc2
  go_enter Try.func14, Try.ntmps14
  go_wp2_with fail
  refine CT.out.mono ?_; rintro e w1 ⟨A1, c1, n, us, rfl, hcc, hlu, hwu, hn1, hn8, hn, hne, hr1, hb1⟩
  have HLU := Lib.hid hlu
  have HR := Lib.hid hr1
  have HWU := Lib.hid hwu
  have HNE := Lib.hid hne
  clear hlu hr1 hwu hne
  have CP := Lib.hid fun W => rpages_any A1 n c1 W (by unfold maxLen; omega)
  obtain ⟨N, hN⟩ : ∃ N, pg n = N := ⟨_, rfl⟩
  rw [hN] at CP hn1 hn8
  obtain ⟨r, hr, hr9⟩ : ∃ r, root % N = r ∧ r < N := ⟨_, rfl, Nat.mod_lt _ (by omega)⟩
  obtain ⟨f, hf, hf9⟩ : ∃ f, frame % N = f ∧ f < N := ⟨_, rfl, Nat.mod_lt _ (by omega)⟩
  obtain ⟨p, hp, hp32⟩ : ∃ p, page % 32 = p ∧ p < 32 := ⟨_, rfl, Nat.mod_lt _ (by omega)⟩
  obtain ⟨g, hg, hg32⟩ : ∃ g, flags % 32 = g ∧ g < 32 := ⟨_, rfl, Nat.mod_lt _ (by omega)⟩
  obtain ⟨o, ho, ho1⟩ : ∃ o, offset % 128 = o ∧ o < 128 := ⟨_, rfl, Nat.mod_lt _ (by omega)⟩
  have gr : (root : Int) % (N : Int) = (r : Int) := by rw [← hr]; exact (Int.natCast_emod _ _).symm
  have gf : (frame : Int) % (N : Int) = (f : Int) := by rw [← hf]; exact (Int.natCast_emod _ _).symm
  have gp : (page : Int) % 32 = (p : Int) := by omega
  have gg : (flags : Int) % 32 = (g : Int) := by omega
  have go : (offset : Int) % 128 = (o : Int) := by omega
  have HMO := Lib.hid (show mok n r p f g = true by unfold mok; rw [hN]; simp; omega)
  have HN := Lib.hid hN
  clear hr hf hp hg ho hN
  go_wp2_with fail
  refine (CP.out _).mono ?_; rintro e w' ⟨rfl, rfl⟩
  go_wp2_with fail
  have z1 : ¬ (N = 0) := by omega
  have z2 : ¬ ((N : Int) = 0) := by omega
  have z3 : ((N : Int) == 0) = false := by simpa using z1
  go_quiet ((go_at_call 26; exact quietC CR.out _ _))
  go_wp2_with fail
  rw [gr, gf, gp, gg, go]
  have HXL := Lib.hid (show (mapW us r p f g).length = n by rw [mapW_length]; exact HLU.out)
  have HXW := Lib.hid (HWU.out.mapW r p f g)
  have hk : knw (1 + c) = true := by simp [knw]; omega
  have HV := Lib.hid (wlk_map us r p f g o (1 + c) (by rw [HLU.out]; exact HMO.out) ho1 hk)
  have hz := cau_ne (1 + c)
  refine (map_at A1 c1 r p f g us HLU.out _ (by omega) (by omega) (by omega) (by omega) (by omega) (HR.out.drewN _) HWU.out).mono ?_
  rw [HMO.out]
  generalize mapW us r p f g = xs at HXL HXW HV ⊢
  rintro e w2 ⟨A2, c2, rfl, ho2, hb2⟩
  have HO2 := Lib.hid (row_rd ho2)
  clear ho2
  go_wp2_with fail
  rw [show 128 * (p : Int) + (o : Int) = ((128 * p + o : Nat) : Int) by omega]
  refine (walk_at A2 c2 r (128 * p + o) (1 + c) xs HXL.out _ (by omega) (by omega) (by omega) HO2.out HXW.out).mono ?_
  rw [HV.out]; rintro e w3 ⟨rfl, hb3⟩
  generalize cau (1 + c) = z at hz ⊢
  have hz2 : (z == 0) = false := by simpa using hz
  have b0 : bits BinOp.and IntKind.u32 (g : Int) 1 = ((g % 2 : Nat) : Int) := by have := bit_int g 0 (by omega) (by omega); simpa using this
  have b1 : bits BinOp.and IntKind.u32 (g : Int) 2 = ((g / 2 % 2 * 2 : Nat) : Int) := bit_int g 1 (by omega) (by omega)
  have b2 : bits BinOp.and IntKind.u32 (g : Int) 4 = ((g / 4 % 2 * 4 : Nat) : Int) := bit_int g 2 (by omega) (by omega)
  have hall : g % 2 = 0 ∨ (g % 2 = 1 ∧ c = 1) ∨ (g % 2 = 1 ∧ c = 0 ∧ g / 4 % 2 = 0) ∨ (g % 2 = 1 ∧ c = 0 ∧ g / 4 % 2 = 1) ∨ (g % 2 = 1 ∧ c = 2 ∧ g / 2 % 2 = 0) ∨ (g % 2 = 1 ∧ c = 2 ∧ g / 2 % 2 = 1) := by omega
  have hper : per g (1 + c) = (decide (g % 2 = 1) && (decide (c ≠ 2) || decide (g / 2 % 2 = 1)) && (decide (c ≠ 0) || decide (g / 4 % 2 = 1))) := by
    rw [Bool.eq_iff_iff]; simp [per]; omega
  rw [hper]
  clear hper hk
  have hsz := hb1.size
  have n0 : (bits BinOp.and IntKind.u32 (g : Int) 1 != 0) = decide (g % 2 = 1) := by rw [b0, Bool.eq_iff_iff]; simp; omega
  have n1 : (bits BinOp.and IntKind.u32 (g : Int) 2 != 0) = decide (g / 2 % 2 = 1) := by rw [b1, Bool.eq_iff_iff]; simp; omega
  have n2 : (bits BinOp.and IntKind.u32 (g : Int) 4 != 0) = decide (g / 4 % 2 = 1) := by rw [b2, Bool.eq_iff_iff]; simp; omega
  clear b0 b1 b2
  rcases hall with g0 | ⟨g0, rfl⟩ | ⟨g0, rfl, g2⟩ | ⟨g0, rfl, g2⟩ | ⟨g0, rfl, g1⟩ | ⟨g0, rfl, g1⟩
  all_goals
    simp only [g0, trn] at n0 ⊢
    try simp only [g1] at n1 ⊢
    try simp only [g2] at n2 ⊢
    simp only [Nat.zero_ne_one, decide_false, decide_true, Bool.false_and, Bool.and_true, Bool.and_false, Bool.or_true, Bool.true_or, Bool.or_false, Bool.false_eq_true, if_true, if_false, ne_eq, not_true_eq_false, not_false_eq_true, (by decide : ((0 : Int) = 2) = False), (by decide : ((1 : Int) = 2) = False), (by decide : ((1 : Int) = 0) = False), (by decide : ((2 : Int) = 0) = False)] at n0 n1 n2 ⊢
    clear g0
    try clear g1
    try clear g2
    go_wp2_with fail
    refine (awake5 _).mono ?_; rintro e w4 ⟨rfl, hb4⟩
    go_wp2_with fail
    go_ret
    have hb := (below_drewN' hb1 _).then (hb2.then hb3)
    exact ⟨rfl, (hb.alloc hb.size _).then hb4⟩
end Go.Proofs.Ytmefbkfapeijgaa
