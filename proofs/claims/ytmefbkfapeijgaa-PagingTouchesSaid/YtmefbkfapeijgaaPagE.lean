/- Paging: the law about offsets. -/
import Derived.Test.YtmefbkfapeijgaaPagD
namespace Go.Proofs.Ytmefbkfapeijgaa
open Go.RowKit

theorem cau_ne (a : Int) : cau a ≠ 0 := by unfold cau; split <;> (try split) <;> decide
theorem wok_page (xs : List Nat) (r p x : Nat) (a : Int) (hx : x < 128) (hp : p < 32) : wok xs r (128 * p + x) a = wok xs r (128 * p) a := by
  unfold wok pte
  rw [show (128 * p + x) / 128 = p by omega, show (128 * p) / 128 = p by omega, decide_eq_true (show 128 * p + x < 4096 by omega), decide_eq_true (show 128 * p < 4096 by omega)]
theorem wlk_page (xs : List Nat) (r p : Nat) (a : Int) (hp : p < 32) : ∃ (ok : Bool) (g : Nat), g < 256 ∧ ∀ x, x < 128 → wlkV xs r (128 * p + x) a = if ok then trn (128 * g + x) (128 * r + 4 * p) 0 else trn 0 0 (cau a) := by
  refine ⟨wok xs r (128 * p) a, get8 (pte xs r (128 * p)) 8, get8_lt _ _, fun x hx => ?_⟩
  unfold wlkV wlk
  rw [wok_page xs r p x a hx hp, show pte xs r (128 * p + x) = pte xs r (128 * p) by unfold pte; rw [show (128 * p + x) / 128 = (128 * p) / 128 by omega], show (128 * p + x) % 128 = x by omega, show (128 * p + x) / 128 = p by omega]
  split <;> rfl

set_option maxRecDepth 100000 in
set_option maxHeartbeats 1000000 in
theorem offsets_any (D : Option Addr) (d : Nat) (ls : List Int) (pages : Int) (root page a b : Nat) (access : Int) (w : World)
    (hp1 : -9223372036854775808 ≤ pages) (hp2 : pages ≤ 9223372036854775807) (hroot : root < 4294967296) (hpage : page < 4294967296) (ha : a < 4294967296) (hb : b < 4294967296) (hc1 : -9223372036854775808 ≤ access) (hc2 : access ≤ 9223372036854775807) (hd : Rd w w.heap.size D (zs ls)) :
    Calls Try.prog 16 #[.slice D ls.length d, .int .i64 pages, .int .u32 root, .int .u32 page, .int .u32 a, .int .u32 b, .int .i64 access] w fun e w' => e = .returned (.bool true) ∧ Below w.heap.size w w' := by
  have CT := Lib.hid (tables_any D d ls pages w hp1 hp2 hd)
  obtain ⟨c, hc, hc0, hc5⟩ : ∃ c, access % 5 = c ∧ 0 ≤ c ∧ c < 5 := ⟨_, rfl, Int.emod_nonneg _ (by omega), Int.emod_lt_of_pos _ (by omega)⟩
  have CR := Lib.hid fun W => (hc ▸ round_any access 5 W hc1 hc2 (by omega) (by omega))
  clear hd hp1 hp2 hc hc1 hc2
  have h5 := Int.emod_lt_of_pos pages (show (0 : Int) < 8 by omega)
  go_enter Try.func16, Try.ntmps16
  go_wp2_with fail
  refine CT.out.mono ?_; rintro e w1 ⟨A1, c1, us, rfl, hcc, hwu, hlu, hr1, hb1⟩
  have hn : us.length ≤ 256 := by omega
  obtain ⟨n, hlu'⟩ : ∃ n, us.length = n := ⟨_, rfl⟩
  rw [hlu'] at hn hcc ⊢
  have HLU := Lib.hid hlu'
  have HR := Lib.hid hr1
  have HWU := Lib.hid hwu
  clear hlu hr1 hwu h5 hlu'
  obtain ⟨r, hr, hr9⟩ : ∃ r, root % 9 = r ∧ r < 9 := ⟨_, rfl, Nat.mod_lt _ (by omega)⟩
  obtain ⟨p, hp, hp32⟩ : ∃ p, page % 32 = p ∧ p < 32 := ⟨_, rfl, Nat.mod_lt _ (by omega)⟩
  obtain ⟨x, hx, hx1⟩ : ∃ x, a % 128 = x ∧ x < 128 := ⟨_, rfl, Nat.mod_lt _ (by omega)⟩
  obtain ⟨y, hy, hy1⟩ : ∃ y, b % 128 = y ∧ y < 128 := ⟨_, rfl, Nat.mod_lt _ (by omega)⟩
  obtain ⟨ok, g, hg, HO⟩ := wlk_page us r p c hp32
  have H1 := Lib.hid (HO x hx1)
  have H2 := Lib.hid (HO y hy1)
  clear HO
  have gr : (root : Int) % 9 = (r : Int) := by omega
  have gp : (page : Int) % 32 = (p : Int) := by omega
  have gx : (a : Int) % 128 = (x : Int) := by omega
  have gy : (b : Int) % 128 = (y : Int) := by omega
  have hz := cau_ne c
  obtain ⟨z, hz'⟩ : ∃ z, cau c = z := ⟨_, rfl⟩
  rw [hz'] at hz
  have hz2 : (z == 0) = false := by simpa using hz
  have gq : (128 * (g : Int) + (x : Int)) % 128 = (x : Int) := by omega
  cases ok with
  | true =>
    have H1 := Lib.hid (show wlkV us r (128 * p + x) c = trn (128 * g + x) (128 * r + 4 * p) 0 from H1.out)
    have H2 := Lib.hid (show wlkV us r (128 * p + y) c = trn (128 * g + y) (128 * r + 4 * p) 0 from H2.out)
    go_wp2_with fail
    refine (CR.out _).mono ?_; rintro e w' ⟨rfl, rfl⟩
    go_wp2_with fail
    rw [show 128 * (p : Int) + (x : Int) = ((128 * p + x : Nat) : Int) by omega]
    refine (walk_at A1 c1 r (128 * p + x) c us HLU.out _ (by omega) (by omega) (by omega) HR.out HWU.out).mono ?_
    rw [H1.out]; rintro e w2 ⟨rfl, hb2⟩
    go_wp2_with fail
    rw [show 128 * (p : Int) + (y : Int) = ((128 * p + y : Nat) : Int) by omega]
    refine (walk_at A1 c1 r (128 * p + y) c us HLU.out _ (by omega) (by omega) (by omega) (HR.out.upto hb2) HWU.out).mono ?_
    rw [H2.out]; rintro e w3 ⟨rfl, hb3⟩
    simp only [trn]
    go_wp2_with fail
    refine (awake5 _).mono ?_; rintro e w4 ⟨rfl, hb4⟩
    go_wp2_with fail
    go_ret
    have hb := hb1.then (hb2.then hb3)
    have hs := hb.size
    exact ⟨rfl, ((hb.alloc hs _).alloc (by simp; omega) _).then hb4⟩
  | false =>
    have H1 := Lib.hid (show wlkV us r (128 * p + x) c = trn 0 0 z from hz' ▸ H1.out)
    have H2 := Lib.hid (show wlkV us r (128 * p + y) c = trn 0 0 z from hz' ▸ H2.out)
    clear hz'
    go_wp2_with fail
    refine (CR.out _).mono ?_; rintro e w' ⟨rfl, rfl⟩
    go_wp2_with fail
    rw [show 128 * (p : Int) + (x : Int) = ((128 * p + x : Nat) : Int) by omega]
    refine (walk_at A1 c1 r (128 * p + x) c us HLU.out _ (by omega) (by omega) (by omega) HR.out HWU.out).mono ?_
    rw [H1.out]; rintro e w2 ⟨rfl, hb2⟩
    go_wp2_with fail
    rw [show 128 * (p : Int) + (y : Int) = ((128 * p + y : Nat) : Int) by omega]
    refine (walk_at A1 c1 r (128 * p + y) c us HLU.out _ (by omega) (by omega) (by omega) (HR.out.upto hb2) HWU.out).mono ?_
    rw [H2.out]; rintro e w3 ⟨rfl, hb3⟩
    simp only [trn]
    go_wp2_with fail
    refine (awake5 _).mono ?_; rintro e w4 ⟨rfl, hb4⟩
    go_wp2_with fail
    go_ret
    have hb := hb1.then (hb2.then hb3)
    have hs := hb.size
    exact ⟨rfl, ((hb.alloc hs _).alloc (by simp; omega) _).then hb4⟩
end Go.Proofs.Ytmefbkfapeijgaa
