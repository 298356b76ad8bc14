/- The law that port writes and completions of the disk keep validity. -/
import Derived.Test.YtmefbkfapeijgaaDskM
import Derived.Test.YtmefbkfapeijgaaDskH
import Derived.Deep.DeepCutAuto
namespace Go.Proofs.Ytmefbkfapeijgaa
open Go.RowKit

theorem Bk.cast {w : World} {b : Nat} {cs cs' : Array Value} {t : TypeId} (h : Bk w b cs t) (e : cs = cs') : Bk w b cs' t := e ▸ h
theorem dOut_ok (d : Dsk) (xs : List Nat) (port : Int) (v a : Nat) (ho : d.Ok) (hv : v < 4294967296) : (dOut d xs port v a).1.Ok := by
  obtain ⟨h1, h2, h3, h4, h5⟩ := ho
  unfold dOut dIss Dsk.Ok; grind
theorem cDsk_ok (d : Dsk) (n : Nat) (ek : Int) (en : Nat) (ed : List UInt8) (ho : d.Ok) : (cDsk d n ek en ed).Ok := by
  obtain ⟨h1, h2, h3, h4, h5⟩ := ho
  unfold cDsk Dsk.Ok; grind
theorem pgB_len (xs : List Nat) (f : Nat) (h : f < pg xs.length) : (pgB xs f).length = 128 := by
  have hp : pgin xs.length f = true := by simp [pgin]; omega
  obtain ⟨_, _, h2, _⟩ := pgin_le hp
  unfold pgB; rw [hp, if_pos rfl, bytesOf_length]; simp; omega
theorem dMay_out (d : Dsk) (xs : List Nat) (port : Int) (v a : Nat) (h : dMay d (pg xs.length) = true) : dMay (dOut d xs port v a).1 (pg xs.length) = true := by
  obtain ⟨B, bl, fr, st, cm, ob, of, od⟩ := d
  have hp := pgB_len xs fr
  simp only [dOut, dIss]
  simp only [dMay] at h ⊢
  by_cases h4 : port = 4
  · simpa [h4] using h
  by_cases h5 : port = 5
  · simpa [h5] using h
  by_cases h6 : port = 6
  · subst h6
    by_cases hv : v = 1 ∨ v = 2
    · by_cases hs : st = 0
      · by_cases hb : B ≤ bl ∨ pg xs.length ≤ fr
        · simp [hv, hs, hb] at h ⊢; omega
        · have h1 : bl < B := by omega
          have h2 : fr < pg xs.length := by omega
          have := hp h2
          subst hs
          rcases hv with rfl | rfl
          · simp only [Nat.one_ne_zero, show ¬ ((6 : Int) = 4) by decide, show ¬ ((6 : Int) = 5) by decide, ne_eq, not_true_eq_false, if_false, true_or, if_true, if_neg hb]
            simp_all
          · simp only [show ¬ ((6 : Int) = 4) by decide, show ¬ ((6 : Int) = 5) by decide, ne_eq, not_true_eq_false, if_false, or_true, if_true, if_neg hb]
            simp_all
      · simpa [hv, hs] using h
    · by_cases hw : v = 0 ∧ (st = 2 ∨ st = 3)
      · obtain ⟨rfl, hw⟩ := hw
        rcases hw with rfl | rfl <;> simpa using h
      · simpa [hv, hw] using h
  · simpa [h4, h5, h6] using h
theorem dMay_cmp (d : Dsk) (n : Nat) (ek : Int) (en : Nat) (ed : List UInt8) (k : Int) (h : dMay d k = true) : dMay (cDsk d n ek en ed) k = true := by
  unfold cDsk
  split
  · simp only [dMay] at h ⊢
    split <;> simp_all
  · exact h

set_option maxRecDepth 100000 in
set_option maxHeartbeats 4000000 in
theorem dkeeps_any (d : Dsk) (raw : Bool) (n pages port : Int) (v : Nat) (w : World) (ho : d.Ok) (hl : d.od.length ≤ 9223372036854775807)
    (hp1 : -9223372036854775808 ≤ pages) (hp2 : pages ≤ 9223372036854775807) (hq1 : -9223372036854775808 ≤ port) (hq2 : port ≤ 9223372036854775807) (_hv : v < 4294967296) :
    Calls Try.prog 24 #[d.V, .bool raw, .int .i64 n, .int .i64 pages, .int .i64 port, .int .u32 v] w fun e w' => e = .returned (.bool true) ∧ Below w.heap.size w w' := by
  have CS := Lib.hid (fun W => shaped9 d raw n W ho hl)
  have CW := Lib.hid (fun W => words9 n pages W hp1 hp2)
  have CE := Lib.hid (fun W => event_any n W)
  obtain ⟨q, hq, hq0, hq5⟩ : ∃ q, port % 5 = q ∧ 0 ≤ q ∧ q < 5 := ⟨_, rfl, Int.emod_nonneg _ (by omega), Int.emod_lt_of_pos _ (by omega)⟩
  have CR := Lib.hid (fun W => (hq ▸ round_any port 5 W hq1 hq2 (by omega) (by omega)))
  obtain ⟨v9, hv9, hv91⟩ : ∃ v9 : Nat, (v : Int) % 9 = v9 ∧ v9 < 9 := ⟨v % 9, by omega, by omega⟩
  have HV9 := Lib.hid hv9
  obtain ⟨B0, bl0, fr0, st0, cm0, ob0, of0, od0⟩ := d
  rw [V_mk] at CS ⊢
  clear hq hv9 hp1 hp2 hq1 hq2 ho hl
  go_enter Try.func24, Try.ntmps24
  go_wp2_with fail
  refine (CS.out _).mono ?_; rintro e w1 ⟨⟨B, bl, fr, st, cm, ob, of, od⟩, rfl, ho1, hod, hb1⟩
  have HO1 := Lib.hid ho1; clear ho1
  simp only [V_mk]
  have hz1 := hb1.size; apply bk_then (w.heap.size) hb1; (focus (repeat' first | (with_reducible assumption) | ((with_reducible apply Bk.new); (first | done | (focus (simp; done)))) | (with_reducible apply Bk.alloc) | (with_reducible apply Bk.set) | (with_reducible apply Bk.other) | (with_reducible apply Bk.drew) | (first | (with_reducible exact Nat.le_refl _) | (with_reducible assumption) | omega | (simp; omega) | (simp; done)) | (simp; omega))); intro hk1_0; have hc1_0 := hk1_0.arr; have hf1_0 := hk1_0.frz; have hl1_0 := hk1_0.lt; (try simp at hz1); replace hb1 : Below w.heap.size w w1 := Below.then (by (repeat' first | (with_reducible exact Below.refl _ _) | (with_reducible assumption) | (with_reducible refine Below.alloc ?_ ?_ _) | (with_reducible refine Below.drew ?_) | (with_reducible refine below_drewN' ?_ _) | (with_reducible refine Below.setCell ?_ ?_ _) | (first | (with_reducible exact Nat.le_refl _) | (with_reducible assumption) | omega | (simp; omega) | (simp; done)))) hb1
  go_wp2_with fail
  refine (CW.out _).mono ?_; rintro e w2 ⟨A, c, N, us, rfl, hNc, hlu, hwu, hN1, hN6, hN, hown, hb2⟩
  have HN := Lib.hid (⟨hlu, hwu, hN, hN1, hN6⟩ : us.length = N ∧ Wd us ∧ N = 32 * pg N ∧ 1 ≤ pg N ∧ pg N ≤ 6)
  have hN2 : N ≤ 192 := by omega
  have HU := Lib.hid (row_nw hown)
  clear hlu hwu hN hN1 hN6 hown
  have hz2 := hb2.size; apply bk_then (w.heap.size) hb2; (focus (repeat' first | (with_reducible assumption) | ((with_reducible apply Bk.new); (first | done | (focus (simp; done)))) | (with_reducible apply Bk.alloc) | (with_reducible apply Bk.set) | (with_reducible apply Bk.other) | (with_reducible apply Bk.drew) | (first | (with_reducible exact Nat.le_refl _) | (with_reducible assumption) | omega | (simp; omega) | (simp; done)) | (simp; omega))); intro hk2_0; (try simp only [List.setIfInBounds_toArray, List.set_cons_zero, List.set_cons_succ] at hk2_0); have hc2_0 := hk2_0.arr; have hf2_0 := hk2_0.frz; have hl2_0 := hk2_0.lt; (try simp at hz2); replace hb2 : Below w.heap.size w w2 := Below.then (by (repeat' first | (with_reducible exact Below.refl _ _) | (with_reducible assumption) | (with_reducible refine Below.alloc ?_ ?_ _) | (with_reducible refine Below.drew ?_) | (with_reducible refine below_drewN' ?_ _) | (with_reducible refine Below.setCell ?_ ?_ _) | (first | (with_reducible exact Nat.le_refl _) | (with_reducible assumption) | omega | (simp; omega) | (simp; done)))) hb2
  go_wp2_with (go_at_call 33; refine (rpages_any _ _ _ _ (by unfold maxLen; omega)).mono ?_; rintro e w' ⟨rfl, rfl⟩)
  cases hm : dMay ⟨B, bl, fr, st, cm, ob, of, od⟩ (pg N)
  · refine (dmay_any ⟨B, bl, fr, st, cm, ob, of, od⟩ (pg N) _ HO1.out).mono ?_; rw [hm]; rintro e w3 ⟨rfl, hb3⟩
    have hz3 := hb3.size; apply bk_then (w.heap.size) hb3; (focus (repeat' first | (with_reducible assumption) | ((with_reducible apply Bk.new); (first | done | (focus (simp; done)))) | (with_reducible apply Bk.alloc) | (with_reducible apply Bk.set) | (with_reducible apply Bk.other) | (with_reducible apply Bk.drew) | (first | (with_reducible exact Nat.le_refl _) | (with_reducible assumption) | omega | (simp; omega) | (simp; done)) | (simp; omega))); intro hk3_0; (try simp only [List.setIfInBounds_toArray, List.set_cons_zero, List.set_cons_succ] at hk3_0); have hc3_0 := hk3_0.arr; have hf3_0 := hk3_0.frz; have hl3_0 := hk3_0.lt; (try simp at hz3); replace hb3 : Below w.heap.size w w3 := Below.then (by (repeat' first | (with_reducible exact Below.refl _ _) | (with_reducible assumption) | (with_reducible refine Below.alloc ?_ ?_ _) | (with_reducible refine Below.drew ?_) | (with_reducible refine below_drewN' ?_ _) | (with_reducible refine Below.setCell ?_ ?_ _) | (first | (with_reducible exact Nat.le_refl _) | (with_reducible assumption) | omega | (simp; omega) | (simp; done)))) hb3
    go_wp2_with (go_at_call 57; refine (awake9 _).mono ?_; rintro e w4 ⟨rfl, hb4⟩; have hz4 := hb4.size; (try simp at hz4); replace hb4 : Below w.heap.size w w4 := Below.then (by (repeat' first | (with_reducible exact Below.refl _ _) | (with_reducible assumption) | (with_reducible refine Below.alloc ?_ ?_ _) | (with_reducible refine Below.drew ?_) | (with_reducible refine below_drewN' ?_ _) | (with_reducible refine Below.setCell ?_ ?_ _) | (first | (with_reducible exact Nat.le_refl _) | (with_reducible assumption) | omega | (simp; omega) | (simp; done)))) hb4)
    ((try simp only [Exit.inBlock, Exit.then]); first | (refine bodyPost_ret (results_tmp rfl _ _ _) rfl ?_) | go_ret2 | go_ret3 | (refine bodyPost_ret (by simp [results, Try.results24, go_sem]; try with_reducible rfl) rfl ?_))
    exact ⟨rfl, by (repeat' first | (with_reducible exact Below.refl _ _) | (with_reducible assumption) | (with_reducible refine Below.alloc ?_ ?_ _) | (with_reducible refine Below.drew ?_) | (with_reducible refine below_drewN' ?_ _) | (with_reducible refine Below.setCell ?_ ?_ _) | (first | (with_reducible exact Nat.le_refl _) | (with_reducible assumption) | omega | (simp; omega) | (simp; done)))⟩
  · refine (dmay_any ⟨B, bl, fr, st, cm, ob, of, od⟩ (pg N) _ HO1.out).mono ?_; rw [hm]; rintro e w3 ⟨rfl, hb3⟩
    have hz3 := hb3.size; apply bk_then (w.heap.size) hb3; (focus (repeat' first | (with_reducible assumption) | ((with_reducible apply Bk.new); (first | done | (focus (simp; done)))) | (with_reducible apply Bk.alloc) | (with_reducible apply Bk.set) | (with_reducible apply Bk.other) | (with_reducible apply Bk.drew) | (first | (with_reducible exact Nat.le_refl _) | (with_reducible assumption) | omega | (simp; omega) | (simp; done)) | (simp; omega))); intro hk3_0; (try simp only [List.setIfInBounds_toArray, List.set_cons_zero, List.set_cons_succ] at hk3_0); have hc3_0 := hk3_0.arr; have hf3_0 := hk3_0.frz; have hl3_0 := hk3_0.lt; (try simp at hz3); replace HU := Lib.hid (HU.out.keep (Keeps.below (by repeat' first | (with_reducible exact Keeps.refl _ _) | (with_reducible refine Keeps.alloc ?_ _) | (with_reducible refine Keeps.setCell ?_ ?_ _) | (with_reducible refine Keeps.drew ?_) | (with_reducible refine Keeps.drewN ?_ _) | (first | (with_reducible exact Nat.le_refl _) | (with_reducible assumption) | omega | (simp; omega) | (simp; done))) hb3)); replace hb3 : Below w.heap.size w w3 := Below.then (by (repeat' first | (with_reducible exact Below.refl _ _) | (with_reducible assumption) | (with_reducible refine Below.alloc ?_ ?_ _) | (with_reducible refine Below.drew ?_) | (with_reducible refine below_drewN' ?_ _) | (with_reducible refine Below.setCell ?_ ?_ _) | (first | (with_reducible exact Nat.le_refl _) | (with_reducible assumption) | omega | (simp; omega) | (simp; done)))) hb3
    generalize hr : dOut ⟨B, bl, fr, st, cm, ob, of, od⟩ us (3 + q) v9 0 = r
    have HM3 := Lib.hid (show dMay r.1 (pg N) = true by rw [← hr, ← HN.out.1]; exact dMay_out _ _ _ _ _ (by rw [HN.out.1]; exact hm))
    have HO3 := Lib.hid (show r.1.Ok by rw [← hr]; exact dOut_ok _ _ _ _ _ HO1.out (by omega))
    have e3 : IntKind.i64.wrap (3 + q) = 3 + q := by rw [IntKind.wrap_i64]; omega
    have e9 : (v : Int).tmod 9 = (v9 : Int) := by rw [← HV9.out]; exact Int.tmod_eq_emod_of_nonneg (by omega)
    have CO : ∀ W, Rd W W.heap.size A (ws us) → Calls Try.prog 50 #[(Dsk.mk B bl fr st cm ob of od).V, .slice A N c, .int .i64 (IntKind.i64.wrap (3 + q)), .int .u32 ((v : Int).tmod 9), .int .u64 (0 : Nat)] W (OutsPost r W) := fun W hR => by
      rw [e3, e9]; exact dout_at ⟨B, bl, fr, st, cm, ob, of, od⟩ A c us HN.out.1 _ _ 0 _ hr W HO1.out (by omega) hNc hR HN.out.2.1 (by omega)
    have HM := Lib.hid hm; clear hr hm e3 e9
    obtain ⟨⟨B', bl', fr', st', cm', ob', of', od'⟩, l⟩ := r
    simp only [V_mk] at HM3 HO3 CO
    replace CO := Lib.hid CO
    go_wp2_with fail
    have HR := Lib.hid (HU.out.keep (by repeat' first | (with_reducible exact Keeps.refl _ _) | (with_reducible refine Keeps.alloc ?_ _) | (with_reducible refine Keeps.setCell ?_ ?_ _) | (with_reducible refine Keeps.drew ?_) | (with_reducible refine Keeps.drewN ?_ _) | (first | (with_reducible exact Nat.le_refl _) | (with_reducible assumption) | omega | (simp; omega) | (simp; done)))).rd
    have HB3 := Lib.hid hb3
    clear hb1 hb2 hk1_0 hk2_0 hc1_0 hc2_0 hf1_0 hf2_0 hl1_0 hl2_0 HU CS CW
    go_cut [15, 16] (fun s15 s16 wx => ∃ bx A4 c4, s15 = .pointer (some ⟨bx, 0, none⟩) ∧ s16 = .slice A4 l.length c4 ∧ Bk wx bx #[.int .u32 B', .int .u32 bl', .int .u32 fr', .int .i64 st', .int .i64 cm', .int .u32 ob', .int .u32 of', .string (str od')] 53 ∧ Below w3.heap.size w3 wx)
    case first =>
      go_region_with (first | (go_at_call 26; refine (CR.out _).mono ?_; rintro e w' ⟨rfl, rfl⟩) | (go_at_call 50; refine (CO.out _ (HR.out.upto (by (repeat' first | (with_reducible exact Below.refl _ _) | (with_reducible assumption) | (with_reducible refine Below.alloc ?_ ?_ _) | (with_reducible refine Below.drew ?_) | (with_reducible refine below_drewN' ?_ _) | (with_reducible refine Below.setCell ?_ ?_ _) | (first | (with_reducible exact Nat.le_refl _) | (with_reducible assumption) | omega | (simp; omega) | (simp; done)))))).mono ?_; simp only [OutsPost, V_mk]; rintro e w4 ⟨A4, c4, rfl, _, _, hb4⟩; (first | (have hz4 := hb4.size; apply bk_then (w.heap.size) hb4; (focus (repeat' first | (with_reducible assumption) | ((with_reducible apply Bk.new); (first | done | (focus (simp; done)))) | (with_reducible apply Bk.alloc) | (with_reducible apply Bk.set) | (with_reducible apply Bk.other) | (with_reducible apply Bk.drew) | (first | (with_reducible exact Nat.le_refl _) | (with_reducible assumption) | omega | (simp; omega) | (simp; done)) | (simp; omega))); intro hk4_0; have hc4_0 := hk4_0.arr; have hf4_0 := hk4_0.frz; have hl4_0 := hk4_0.lt; apply bk_then (w3.heap.size) hb4; (focus (repeat' first | (with_reducible assumption) | ((with_reducible apply Bk.new); (first | done | (focus (simp; done)))) | (with_reducible apply Bk.alloc) | (with_reducible apply Bk.set) | (with_reducible apply Bk.other) | (with_reducible apply Bk.drew) | (first | (with_reducible exact Nat.le_refl _) | (with_reducible assumption) | omega | (simp; omega) | (simp; done)) | (simp; omega))); intro hk4_1; have hc4_1 := hk4_1.arr; have hf4_1 := hk4_1.frz; have hl4_1 := hk4_1.lt; (try simp at hz4); replace hb4 : Below w3.heap.size w3 w4 := Below.then (by (repeat' first | (with_reducible exact Below.refl _ _) | (with_reducible assumption) | (with_reducible refine Below.alloc ?_ ?_ _) | (with_reducible refine Below.drew ?_) | (with_reducible refine below_drewN' ?_ _) | (with_reducible refine Below.setCell ?_ ?_ _) | (first | (with_reducible exact Nat.le_refl _) | (with_reducible assumption) | omega | (simp; omega) | (simp; done)))) hb4) | (have hz4 := hb4.size; apply bk_then (w.heap.size) hb4; (focus (repeat' first | (with_reducible assumption) | ((with_reducible apply Bk.new); (first | done | (focus (simp; done)))) | (with_reducible apply Bk.alloc) | (with_reducible apply Bk.set) | (with_reducible apply Bk.other) | (with_reducible apply Bk.drew) | (first | (with_reducible exact Nat.le_refl _) | (with_reducible assumption) | omega | (simp; omega) | (simp; done)) | (simp; omega))); intro hk4_0; have hc4_0 := hk4_0.arr; have hf4_0 := hk4_0.frz; have hl4_0 := hk4_0.lt; (try simp at hz4); replace hb4 : Below w3.heap.size w3 w4 := Below.then (by (repeat' first | (with_reducible exact Below.refl _ _) | (with_reducible assumption) | (with_reducible refine Below.alloc ?_ ?_ _) | (with_reducible refine Below.drew ?_) | (with_reducible refine below_drewN' ?_ _) | (with_reducible refine Below.setCell ?_ ?_ _) | (first | (with_reducible exact Nat.le_refl _) | (with_reducible assumption) | omega | (simp; omega) | (simp; done)))) hb4))))
      all_goals
        go_wp2_with fail
        go_meet
        refine ⟨_, _, _, rfl, rfl, ?_, by (repeat' first | (with_reducible exact Below.refl _ _) | (with_reducible assumption) | (with_reducible refine Below.alloc ?_ ?_ _) | (with_reducible refine Below.drew ?_) | (with_reducible refine below_drewN' ?_ _) | (with_reducible refine Below.setCell ?_ ?_ _) | (first | (with_reducible exact Nat.le_refl _) | (with_reducible assumption) | omega | (simp; omega) | (simp; done)))⟩
        all_goals
          apply Bk.cast
          (focus (repeat' first | (with_reducible assumption) | ((with_reducible apply Bk.new); (first | done | (focus (simp; done)))) | (with_reducible apply Bk.alloc) | (with_reducible apply Bk.set) | (with_reducible apply Bk.other) | (with_reducible apply Bk.drew) | (first | (with_reducible exact Nat.le_refl _) | (with_reducible assumption) | omega | (simp; omega) | (simp; done)) | (simp; omega)))
          first | rfl | simp only [List.setIfInBounds_toArray, List.set_cons_zero, List.set_cons_succ]
    case rest =>
      obtain ⟨bx, A4, c4, rfl, rfl, hkx, hbc⟩ := hcut
      have hcx := hkx.arr; have hfx := hkx.frz; have hlx := hkx.lt
      have hkd := hk3_0.below hbc; have hcd := hkd.arr; have hfd := hkd.frz; have hld := hkd.lt
      have hzc := hbc.size
      go_wp2_with fail
      go_cut [17, 18, 19] (fun s17 s18 s19 wx => ∃ (y c6 : Nat) (A6 : Option Addr) (ok : Bool) (d2 : Dsk), s17 = .pointer (some ⟨y, 0, none⟩) ∧ s18 = .slice A6 N c6 ∧ s19 = .bool ok ∧ Bk wx bx #[.int .u32 B', .int .u32 bl', .int .u32 fr', .int .i64 st', .int .i64 cm', .int .u32 ob', .int .u32 of', .string (str od')] 53 ∧ Bk wx y #[.int .u32 d2.B, .int .u32 d2.bl, .int .u32 d2.fr, .int .i64 d2.st, .int .i64 d2.cm, .int .u32 d2.ob, .int .u32 d2.of, .string (str d2.od)] 53 ∧ dMay d2 (pg N) = true ∧ d2.Ok ∧ Below w3.heap.size w3 wx)
      case first =>
        go_region_with (first
          | (go_at_call 83; refine (CE.out _).mono ?_; rintro e w5 ⟨ek, en, ed, rfl, hen, hed5, hb5⟩; (first | (have hz5 := hb5.size; apply bk_then (w.heap.size) hb5; (focus (repeat' first | (with_reducible assumption) | ((with_reducible apply Bk.new); (first | done | (focus (simp; done)))) | (with_reducible apply Bk.alloc) | (with_reducible apply Bk.set) | (with_reducible apply Bk.other) | (with_reducible apply Bk.drew) | (first | (with_reducible exact Nat.le_refl _) | (with_reducible assumption) | omega | (simp; omega) | (simp; done)) | (simp; omega))); intro hk5_0; have hc5_0 := hk5_0.arr; have hf5_0 := hk5_0.frz; have hl5_0 := hk5_0.lt; apply bk_then (bx) hb5; (focus (repeat' first | (with_reducible assumption) | ((with_reducible apply Bk.new); (first | done | (focus (simp; done)))) | (with_reducible apply Bk.alloc) | (with_reducible apply Bk.set) | (with_reducible apply Bk.other) | (with_reducible apply Bk.drew) | (first | (with_reducible exact Nat.le_refl _) | (with_reducible assumption) | omega | (simp; omega) | (simp; done)) | (simp; omega))); intro hk5_1; have hc5_1 := hk5_1.arr; have hf5_1 := hk5_1.frz; have hl5_1 := hk5_1.lt; apply bk_then (wc.heap.size) hb5; (focus (repeat' first | (with_reducible assumption) | ((with_reducible apply Bk.new); (first | done | (focus (simp; done)))) | (with_reducible apply Bk.alloc) | (with_reducible apply Bk.set) | (with_reducible apply Bk.other) | (with_reducible apply Bk.drew) | (first | (with_reducible exact Nat.le_refl _) | (with_reducible assumption) | omega | (simp; omega) | (simp; done)) | (simp; omega))); intro hk5_2; have hc5_2 := hk5_2.arr; have hf5_2 := hk5_2.frz; have hl5_2 := hk5_2.lt; (try simp at hz5); replace hb5 : Below w3.heap.size w3 w5 := Below.then (by (repeat' first | (with_reducible exact Below.refl _ _) | (with_reducible assumption) | (with_reducible refine Below.alloc ?_ ?_ _) | (with_reducible refine Below.drew ?_) | (with_reducible refine below_drewN' ?_ _) | (with_reducible refine Below.setCell ?_ ?_ _) | (first | (with_reducible exact Nat.le_refl _) | (with_reducible assumption) | omega | (simp; omega) | (simp; done)))) hb5) | (have hz5 := hb5.size; apply bk_then (w.heap.size) hb5; (focus (repeat' first | (with_reducible assumption) | ((with_reducible apply Bk.new); (first | done | (focus (simp; done)))) | (with_reducible apply Bk.alloc) | (with_reducible apply Bk.set) | (with_reducible apply Bk.other) | (with_reducible apply Bk.drew) | (first | (with_reducible exact Nat.le_refl _) | (with_reducible assumption) | omega | (simp; omega) | (simp; done)) | (simp; omega))); intro hk5_0; have hc5_0 := hk5_0.arr; have hf5_0 := hk5_0.frz; have hl5_0 := hk5_0.lt; apply bk_then (bx) hb5; (focus (repeat' first | (with_reducible assumption) | ((with_reducible apply Bk.new); (first | done | (focus (simp; done)))) | (with_reducible apply Bk.alloc) | (with_reducible apply Bk.set) | (with_reducible apply Bk.other) | (with_reducible apply Bk.drew) | (first | (with_reducible exact Nat.le_refl _) | (with_reducible assumption) | omega | (simp; omega) | (simp; done)) | (simp; omega))); intro hk5_1; have hc5_1 := hk5_1.arr; have hf5_1 := hk5_1.frz; have hl5_1 := hk5_1.lt; (try simp at hz5); replace hb5 : Below w3.heap.size w3 w5 := Below.then (by (repeat' first | (with_reducible exact Below.refl _ _) | (with_reducible assumption) | (with_reducible refine Below.alloc ?_ ?_ _) | (with_reducible refine Below.drew ?_) | (with_reducible refine below_drewN' ?_ _) | (with_reducible refine Below.setCell ?_ ?_ _) | (first | (with_reducible exact Nat.le_refl _) | (with_reducible assumption) | omega | (simp; omega) | (simp; done)))) hb5)))
          | (go_at_call 72; obtain ⟨⟨B2, bl2, fr2, st2, cm2, ob2, of2, od2⟩, hd2⟩ : ∃ d2, cDsk ⟨B, bl, fr, st, cm, ob, of, od⟩ N ek en ed = d2 := ⟨_, rfl⟩; have HM6 := Lib.hid (show dMay ⟨B2, bl2, fr2, st2, cm2, ob2, of2, od2⟩ (pg N) = true by rw [← hd2]; exact dMay_cmp _ _ _ _ _ _ HM.out); have HO6 := Lib.hid (show (Dsk.mk B2 bl2 fr2 st2 cm2 ob2 of2 od2).Ok by rw [← hd2]; exact cDsk_ok _ _ _ _ _ HO1.out); refine (dcomplete_at ⟨B, bl, fr, st, cm, ob, of, od⟩ A c us HN.out.1 ek en ed _ HO1.out (by omega) (HR.out.upto (by (repeat' first | (with_reducible exact Below.refl _ _) | (with_reducible assumption) | (with_reducible refine Below.alloc ?_ ?_ _) | (with_reducible refine Below.drew ?_) | (with_reducible refine below_drewN' ?_ _) | (with_reducible refine Below.setCell ?_ ?_ _) | (first | (with_reducible exact Nat.le_refl _) | (with_reducible assumption) | omega | (simp; omega) | (simp; done))))) HN.out.2.1 hen _ hd2 _ rfl _ rfl).mono ?_; clear hd2; simp only [CmpOut, V_mk]; rintro e w6 ⟨A6, c6, us6, rfl, _, _, _, _, hb6⟩; (first | (have hz6 := hb6.size; apply bk_then (bx) hb6; (focus (repeat' first | (with_reducible assumption) | ((with_reducible apply Bk.new); (first | done | (focus (simp; done)))) | (with_reducible apply Bk.alloc) | (with_reducible apply Bk.set) | (with_reducible apply Bk.other) | (with_reducible apply Bk.drew) | (first | (with_reducible exact Nat.le_refl _) | (with_reducible assumption) | omega | (simp; omega) | (simp; done)) | (simp; omega))); intro hk6_0; have hc6_0 := hk6_0.arr; have hf6_0 := hk6_0.frz; have hl6_0 := hk6_0.lt; apply bk_then (wc.heap.size) hb6; (focus (repeat' first | (with_reducible assumption) | ((with_reducible apply Bk.new); (first | done | (focus (simp; done)))) | (with_reducible apply Bk.alloc) | (with_reducible apply Bk.set) | (with_reducible apply Bk.other) | (with_reducible apply Bk.drew) | (first | (with_reducible exact Nat.le_refl _) | (with_reducible assumption) | omega | (simp; omega) | (simp; done)) | (simp; omega))); intro hk6_1; have hc6_1 := hk6_1.arr; have hf6_1 := hk6_1.frz; have hl6_1 := hk6_1.lt; (try simp at hz6); replace hb6 : Below w3.heap.size w3 w6 := Below.then (by (repeat' first | (with_reducible exact Below.refl _ _) | (with_reducible assumption) | (with_reducible refine Below.alloc ?_ ?_ _) | (with_reducible refine Below.drew ?_) | (with_reducible refine below_drewN' ?_ _) | (with_reducible refine Below.setCell ?_ ?_ _) | (first | (with_reducible exact Nat.le_refl _) | (with_reducible assumption) | omega | (simp; omega) | (simp; done)))) hb6) | (have hz6 := hb6.size; apply bk_then (bx) hb6; (focus (repeat' first | (with_reducible assumption) | ((with_reducible apply Bk.new); (first | done | (focus (simp; done)))) | (with_reducible apply Bk.alloc) | (with_reducible apply Bk.set) | (with_reducible apply Bk.other) | (with_reducible apply Bk.drew) | (first | (with_reducible exact Nat.le_refl _) | (with_reducible assumption) | omega | (simp; omega) | (simp; done)) | (simp; omega))); intro hk6_0; have hc6_0 := hk6_0.arr; have hf6_0 := hk6_0.frz; have hl6_0 := hk6_0.lt; apply bk_then (w5.heap.size) hb6; (focus (repeat' first | (with_reducible assumption) | ((with_reducible apply Bk.new); (first | done | (focus (simp; done)))) | (with_reducible apply Bk.alloc) | (with_reducible apply Bk.set) | (with_reducible apply Bk.other) | (with_reducible apply Bk.drew) | (first | (with_reducible exact Nat.le_refl _) | (with_reducible assumption) | omega | (simp; omega) | (simp; done)) | (simp; omega))); intro hk6_1; have hc6_1 := hk6_1.arr; have hf6_1 := hk6_1.frz; have hl6_1 := hk6_1.lt; (try simp at hz6); replace hb6 : Below w3.heap.size w3 w6 := Below.then (by (repeat' first | (with_reducible exact Below.refl _ _) | (with_reducible assumption) | (with_reducible refine Below.alloc ?_ ?_ _) | (with_reducible refine Below.drew ?_) | (with_reducible refine below_drewN' ?_ _) | (with_reducible refine Below.setCell ?_ ?_ _) | (first | (with_reducible exact Nat.le_refl _) | (with_reducible assumption) | omega | (simp; omega) | (simp; done)))) hb6) | (have hz6 := hb6.size; apply bk_then (bx) hb6; (focus (repeat' first | (with_reducible assumption) | ((with_reducible apply Bk.new); (first | done | (focus (simp; done)))) | (with_reducible apply Bk.alloc) | (with_reducible apply Bk.set) | (with_reducible apply Bk.other) | (with_reducible apply Bk.drew) | (first | (with_reducible exact Nat.le_refl _) | (with_reducible assumption) | omega | (simp; omega) | (simp; done)) | (simp; omega))); intro hk6_0; have hc6_0 := hk6_0.arr; have hf6_0 := hk6_0.frz; have hl6_0 := hk6_0.lt; (try simp at hz6); replace hb6 : Below w3.heap.size w3 w6 := Below.then (by (repeat' first | (with_reducible exact Below.refl _ _) | (with_reducible assumption) | (with_reducible refine Below.alloc ?_ ?_ _) | (with_reducible refine Below.drew ?_) | (with_reducible refine below_drewN' ?_ _) | (with_reducible refine Below.setCell ?_ ?_ _) | (first | (with_reducible exact Nat.le_refl _) | (with_reducible assumption) | omega | (simp; omega) | (simp; done)))) hb6))))
        all_goals
          go_wp2_with fail
          go_meet
          refine ⟨_, _, _, _, ⟨B2, bl2, fr2, st2, cm2, ob2, of2, od2⟩, rfl, rfl, rfl, ?_, ?_, HM6.out, HO6.out, by (repeat' first | (with_reducible exact Below.refl _ _) | (with_reducible assumption) | (with_reducible refine Below.alloc ?_ ?_ _) | (with_reducible refine Below.drew ?_) | (with_reducible refine below_drewN' ?_ _) | (with_reducible refine Below.setCell ?_ ?_ _) | (first | (with_reducible exact Nat.le_refl _) | (with_reducible assumption) | omega | (simp; omega) | (simp; done)))⟩
          all_goals
            apply Bk.cast
            (focus (repeat' first | (with_reducible assumption) | ((with_reducible apply Bk.new); (first | done | (focus (simp; done)))) | (with_reducible apply Bk.alloc) | (with_reducible apply Bk.set) | (with_reducible apply Bk.other) | (with_reducible apply Bk.drew) | (first | (with_reducible exact Nat.le_refl _) | (with_reducible assumption) | omega | (simp; omega) | (simp; done)) | (simp; omega)))
            first | rfl | simp only [List.setIfInBounds_toArray, List.set_cons_zero, List.set_cons_succ]
      case rest =>
        obtain ⟨y, c6, A6, ok, ⟨B2, bl2, fr2, st2, cm2, ob2, of2, od2⟩, rfl, rfl, rfl, hkx2, hky, HM6, HO6, hbz⟩ := hcut
        simp only [] at hky
        replace HM6 := Lib.hid HM6; replace HO6 := Lib.hid HO6
        have hcx2 := hkx2.arr; have hfx2 := hkx2.frz; have hlx2 := hkx2.lt
        have hcy := hky.arr; have hfy := hky.frz; have hly := hky.lt
        have hzz := hbz.size
        clear hkx hcx hfx hlx hkd hcd hfd hld
        go_wp2_with fail
        refine (dmay_any ⟨B', bl', fr', st', cm', ob', of', od'⟩ (pg N) _ HO3.out).mono ?_; rw [HM3.out]; rintro e w7 ⟨rfl, hb7⟩
        (first | (have hz7 := hb7.size; apply bk_then (y) hb7; (focus (repeat' first | (with_reducible assumption) | ((with_reducible apply Bk.new); (first | done | (focus (simp; done)))) | (with_reducible apply Bk.alloc) | (with_reducible apply Bk.set) | (with_reducible apply Bk.other) | (with_reducible apply Bk.drew) | (first | (with_reducible exact Nat.le_refl _) | (with_reducible assumption) | omega | (simp; omega) | (simp; done)) | (simp; omega))); intro hk7_0; have hc7_0 := hk7_0.arr; have hf7_0 := hk7_0.frz; have hl7_0 := hk7_0.lt; (try simp at hz7); replace hb7 : Below w3.heap.size w3 w7 := Below.then (by (repeat' first | (with_reducible exact Below.refl _ _) | (with_reducible assumption) | (with_reducible refine Below.alloc ?_ ?_ _) | (with_reducible refine Below.drew ?_) | (with_reducible refine below_drewN' ?_ _) | (with_reducible refine Below.setCell ?_ ?_ _) | (first | (with_reducible exact Nat.le_refl _) | (with_reducible assumption) | omega | (simp; omega) | (simp; done)))) hb7))
        go_wp2_with fail
        refine (dmay_any ⟨B2, bl2, fr2, st2, cm2, ob2, of2, od2⟩ (pg N) _ HO6.out).mono ?_; rw [HM6.out]; rintro e w8 ⟨rfl, hb8⟩
        (first | (have hz8 := hb8.size; (try simp at hz8); replace hb8 : Below w3.heap.size w3 w8 := Below.then (by (repeat' first | (with_reducible exact Below.refl _ _) | (with_reducible assumption) | (with_reducible refine Below.alloc ?_ ?_ _) | (with_reducible refine Below.drew ?_) | (with_reducible refine below_drewN' ?_ _) | (with_reducible refine Below.setCell ?_ ?_ _) | (first | (with_reducible exact Nat.le_refl _) | (with_reducible assumption) | omega | (simp; omega) | (simp; done)))) hb8))
        go_wp2_with (go_at_call 57; refine (awake9 _).mono ?_; rintro e w9 ⟨rfl, hb9⟩; (first | (have hz9 := hb9.size; (try simp at hz9); replace hb9 : Below w3.heap.size w3 w9 := Below.then (by (repeat' first | (with_reducible exact Below.refl _ _) | (with_reducible assumption) | (with_reducible refine Below.alloc ?_ ?_ _) | (with_reducible refine Below.drew ?_) | (with_reducible refine below_drewN' ?_ _) | (with_reducible refine Below.setCell ?_ ?_ _) | (first | (with_reducible exact Nat.le_refl _) | (with_reducible assumption) | omega | (simp; omega) | (simp; done)))) hb9)))
        go_ret
        exact ⟨rfl, HB3.out.trans (hb9.mono (by omega))⟩
end Go.Proofs.Ytmefbkfapeijgaa
