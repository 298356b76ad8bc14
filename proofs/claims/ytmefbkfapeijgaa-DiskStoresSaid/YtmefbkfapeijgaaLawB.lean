/- MemoryOrders: what the law's call does. -/
import Derived.Test.YtmefbkfapeijgaaLawA
import Derived.Test.YtmefbkfapeijgaaView
namespace Go.Proofs.Ytmefbkfapeijgaa
open Go.RowKit

theorem shaped_nil (D : Option Addr) (d : Nat) (ls : List Int) (pages : Int) (w : World) (hp1 : -9223372036854775808 ≤ pages) (hp2 : pages ≤ 9223372036854775807) (hd : Rd w w.heap.size D (zs ls)) :
    Calls Try.prog 25 #[.slice none 0 0, .bool false, .slice D ls.length d, .int .i64 pages] w fun e w' => ∃ A' c' n us, e = .returned (.slice A' n c') ∧ n ≤ c' ∧ us.length = n ∧ Wd us ∧ n = 32 * pg n ∧ 32 ≤ n ∧ n ≤ 192 ∧ Rd w' w'.heap.size A' (ws us) ∧ Below w.heap.size w w' := by
  refine (shaped_any none D 0 d [] false ls pages w hp1 hp2 (Nat.le_refl _) Rd.nil (fun x hx => by cases hx) hd).mono ?_
  rintro e w' ⟨A', c', us, rfl, hc, hs, hr, hb⟩
  rcases hs.2 with ⟨h, _⟩ | ⟨hl, _⟩
  · cases h
  · have h0 := Int.emod_nonneg pages (show (6 : Int) ≠ 0 by omega)
    have h1 := Int.emod_lt_of_pos pages (show (0 : Int) < 6 by omega)
    exact ⟨A', c', us.length, us, rfl, hc, rfl, hs.1, by unfold pg; rw [if_pos (by omega)]; omega, by omega, by omega, hr, hb⟩

theorem win4 (n i : Nat) (hn : n = 32 * pg n) (hi : i < n) : win n (4 * i) 4 = true := by simp [win]; omega
theorem win1 (n a : Nat) (hn : n = 32 * pg n) (ha : a < 4 * n) : win n a 1 = true := by simp [win]; omega
theorem stv4 (us : List Nat) (i v : Nat) (hn : us.length = 32 * pg us.length) (hi : i < us.length) : stv us (4 * i) 4 v = us.set i v := by
  unfold stv stw; rw [win4 _ _ hn hi, show 4 * i / 4 = i by omega]; rfl
theorem ldv1 (us : List Nat) (a : Nat) (hn : us.length = 32 * pg us.length) (ha : a < 4 * us.length) : ldv us a 1 = get8 (us.getD (a / 4) 0) (8 * (a % 4)) := by
  unfold ldv; rw [win1 _ _ hn ha]; rfl

theorem or_step (v k : Nat) (hv : v < 4294967296) (hk : k < 4) : bits BinOp.or IntKind.u32 ((v % 2 ^ (8 * k) : Nat) : Int) ((get8 v (8 * k) : Nat) * 2 ^ (8 * k) % 4294967296) = ((v % 2 ^ (8 * (k + 1)) : Nat) : Int) := by
  have h1 := get8_lt v (8 * k)
  have h2 : v % 2 ^ (8 * k) < 2 ^ (8 * k) := Nat.mod_lt _ (Nat.two_pow_pos _)
  have h3 : (get8 v (8 * k) * 2 ^ (8 * k)) % 4294967296 = get8 v (8 * k) * 2 ^ (8 * k) ∧ 2 ^ (8 * k) ≤ 16777216 ∧ v % 2 ^ (8 * (k + 1)) = v % 2 ^ (8 * k) + get8 v (8 * k) * 2 ^ (8 * k) := by
    unfold get8 at h1 ⊢
    rcases (show k = 0 ∨ k = 1 ∨ k = 2 ∨ k = 3 by omega) with rfl | rfl | rfl | rfl <;> simp only [Nat.reduceMul, Nat.reducePow, Nat.reduceAdd] at h1 ⊢ <;> omega
  have e : ((get8 v (8 * k) : Nat) : Int) * 2 ^ (8 * k) % 4294967296 = ((get8 v (8 * k) * 2 ^ (8 * k) : Nat) : Int) := by
    rw [← h3.1]; simp
  rw [e, u32_or_nat _ _ (by omega) (by rw [← h3.1]; exact Nat.mod_lt _ (by omega)), Nat.or_comm, nat_join (8 * k) _ _ (by rw [Nat.mul_mod_left]) h2, h3.2.2]
  congr 1; omega

set_option maxRecDepth 100000 in
set_option maxHeartbeats 1000000 in
theorem orders_any (D : Option Addr) (d : Nat) (ls : List Int) (pages : Int) (a b v u : Nat) (w : World)
    (hp1 : -9223372036854775808 ≤ pages) (hp2 : pages ≤ 9223372036854775807) (hv : v < 4294967296) (hu : u < 4294967296) (hd : Rd w w.heap.size D (zs ls)) :
    Calls Try.prog 4 #[.slice D ls.length d, .int .i64 pages, .int .u32 a, .int .u32 b, .int .u32 v, .int .u32 u] w fun e w' => e = .returned (.bool true) ∧ Below w.heap.size w w' := by
  have CSh := Lib.hid (shaped_nil D d ls pages w hp1 hp2 hd)
  clear hd hp1 hp2
  go_enter Try.func4, Try.ntmps4
  go_wp2_with fail
  refine CSh.out.mono ?_; rintro e w1 ⟨A1, c1, n, us, rfl, hcc, hlu, hwu, hpn, hn1, hn2, hr1, hb1⟩
  have HR1 := Lib.hid hr1
  have HLU := Lib.hid hlu
  have HPN := Lib.hid hpn
  clear hr1 hlu hpn
  obtain ⟨i, hie, hi⟩ : ∃ i, a % n = i ∧ i < n := ⟨_, rfl, Nat.mod_lt _ (by omega)⟩
  obtain ⟨j, hje, hj⟩ : ∃ j, b % n = j ∧ j < n := ⟨_, rfl, Nat.mod_lt _ (by omega)⟩
  have t1 : (a : Int).tmod (n : Int) = (i : Int) := by rw [Int.tmod_eq_emod_of_nonneg (by omega), ← hie]; simp
  have t2 : (b : Int).tmod (n : Int) = (j : Int) := by rw [Int.tmod_eq_emod_of_nonneg (by omega), ← hje]; simp
  obtain ⟨p, hp⟩ : ∃ p, p = 4 * i := ⟨_, rfl⟩
  obtain ⟨q, hq⟩ : ∃ q, q = 4 * j := ⟨_, rfl⟩
  have t3 : IntKind.u32.wrap ((i : Int) * 4) = (p : Int) := by rw [IntWalk.u32_in _ (by omega)]; omega
  have t4 : IntKind.u32.wrap ((j : Int) * 4) = (q : Int) := by rw [IntWalk.u32_in _ (by omega)]; omega
  have t5 : ((n : Int) == 0) = false := by simp; omega
  have t6 : IntKind.u32.wrap (n : Int) = n := IntWalk.u32_in _ (by omega)
  have HPI := Lib.hid hp
  have HQJ := Lib.hid hq
  have hpl : p < 4 * n := by omega
  have hql : q + 4 ≤ 4 * n := by omega
  clear hie hje hp hq
  go_wp2_with fail
  go_quiet (fail)
  clear t1 t2 t3 t4 t5 t6
  have HB := Lib.hid (below_drewN' hb1 nq)
  have HR := Lib.hid (show Rd (w1.drewN nq) (w1.drewN nq).heap.size A1 (ws us) from HR1.out)
  clear hb1 HR1
  generalize w1.drewN nq = W at HB HR
  have S1 := Lib.hid (show stv us p 4 v = us.set i v by rw [HPI.out]; exact stv4 us i v (by rw [HLU.out]; exact HPN.out) (by rw [HLU.out]; exact hi))
  have S2 := Lib.hid (show stv (us.set i v) q 4 u = (us.set i v).set j u by rw [HQJ.out]; exact stv4 _ j u (by rw [List.length_set, HLU.out]; exact HPN.out) (by rw [List.length_set, HLU.out]; exact hj))
  have S3 := Lib.hid (show stv us q 4 u = us.set j u by rw [HQJ.out]; exact stv4 us j u (by rw [HLU.out]; exact HPN.out) (by rw [HLU.out]; exact hj))
  have S4 := Lib.hid (show stv (us.set j u) p 4 v = (us.set j u).set i v by rw [HPI.out]; exact stv4 _ i v (by rw [List.length_set, HLU.out]; exact HPN.out) (by rw [List.length_set, HLU.out]; exact hi))
  have W1 : ∀ k : Nat, k < n → win n (4 * k) 4 = true := fun k hk => win4 n k HPN.out hk
  have Wp := Lib.hid (show win n p 4 = true by rw [HPI.out]; exact W1 i hi)
  have Wq := Lib.hid (show win n q 4 = true by rw [HQJ.out]; exact W1 j hj)
  have HL2 := Lib.hid (show ((us.set i v).set j u).length = n by simp [HLU.out])
  have Hset := Lib.hid (hwu.set i v hv)
  have Hset2 := Lib.hid ((hwu.set i v hv).set j u hu)
  have Hset3 := Lib.hid (hwu.set j u hu)
  have HLD : ∀ k, k < 4 → ldv ((us.set i v).set j u) (q + k) 1 = get8 u (8 * k) ∧ win n (q + k) 1 = true := fun k hk => by
    refine ⟨?_, win1 n _ HPN.out (by omega)⟩
    rw [ldv1 _ _ (by rw [HL2.out]; exact HPN.out) (by rw [HL2.out]; omega), HQJ.out, show (4 * j + k) / 4 = j by omega, show (4 * j + k) % 4 = k by omega]
    simp [List.getD_eq_getElem?_getD, HLU.out, hj]
  have HLDh := Lib.hid HLD
  have Hu := Lib.hid (show u % 2 ^ (8 * 4) = u by simp only [Nat.reduceMul, Nat.reducePow]; omega)
  clear W1 HLD
  have TAIL : True := trivial
  by_cases hpq : p = q
  · subst hpq
    go_wp2_with fail
    refine (store_at A1 c1 _ _ _ us HLU.out _ (by omega) (by omega) hv HR.out hwu).mono ?_
    rw [Wp.out, S1.out]; rintro e w2 ⟨A2, c2, rfl, ho2, hb2⟩
    have HO2 := Lib.hid ho2
    clear ho2
    go_wp2_with fail
    refine (store_at A2 c2 _ _ _ _ (by rw [List.length_set, HLU.out]) _ (by omega) (by omega) hu (row_rd HO2.out) Hset.out).mono ?_
    rw [Wp.out, S2.out]; rintro e w3 ⟨A3, c3, rfl, ho3, hb3⟩
    have HO3 := Lib.hid ho3
    clear ho3
    go_wp2_with fail
    refine (store_at A1 c1 _ _ _ us HLU.out _ (by omega) (by omega) hu ((HR.out.upto hb2).upto hb3) hwu).mono ?_
    rw [Wp.out, S3.out]; rintro e w4 ⟨A4, c4, rfl, ho4, hb4⟩
    have HO4 := Lib.hid ho4
    clear ho4
    go_wp2_with fail
    refine (store_at A4 c4 _ _ _ _ (by rw [List.length_set, HLU.out]) _ (by omega) (by omega) hv (row_rd HO4.out) Hset3.out).mono ?_
    rw [Wp.out, S4.out]; rintro e w5 ⟨A5, c5, rfl, ho5, hb5⟩
    have HO5 := Lib.hid ho5
    clear ho5
    go_wp2_with fail
    go_loop [19, 20] (fun z i => ∃ k : Nat, k ≤ 4 ∧ i = .int .u32 k ∧ z = .int .u32 ((u % 2 ^ (8 * k) : Nat) : Int)) (fun _ i => 4 - (intOf i).toNat)
    case atStart => exact ⟨0, Nat.zero_le _, rfl, by simp [Nat.mod_one]⟩
    case round =>
      obtain ⟨k, hk, rfl, rfl⟩ := hrel
      by_cases hlt : k < 4
      · obtain ⟨l1, l2⟩ := HLDh.out k hlt
        have L1 := Lib.hid l1
        have L2 := Lib.hid l2
        have HS := Lib.hid (or_step u k hu hlt)
        clear l1 l2
        go_wp2_with fail
        rw [show ((p : Nat) : Int) + (k : Int) = ((p + k : Nat) : Int) by omega]
        refine (load_at A3 c3 _ _ _ HL2.out _ (by omega) (by omega) ((row_rd HO3.out).upto hb4 |>.upto hb5) Hset2.out).mono ?_
        rw [L1.out, L2.out]
        rintro e w' ⟨rfl, rfl⟩
        have hg := get8_lt u (8 * k)
        generalize hgg : get8 u (8 * k) = g8 at hg HS
        clear hgg
        go_wp2_with fail
        go_round
        case rel => exact ⟨k + 1, by omega, by go_num, by rw [← HS.out]; simp⟩
        case measure => simp [intOf]; omega
      · obtain rfl : k = 4 := by omega
        rw [Hu.out]
        go_wp2_with fail
        refine (awake4 _).mono ?_; rintro e w8 ⟨rfl, hb8⟩
        go_wp2_with fail
        go_ret
        exact ⟨rfl, HB.out.then (hb2.then (hb3.then (hb4.then (hb5.then hb8))))⟩
  · have g1 : ((p : Int) != (q : Int)) = true := by rw [bne_iff_ne]; omega
    have HIJ := Lib.hid (show (us.set j u).set i v = (us.set i v).set j u by rw [List.set_comm]; have := HPI.out; have := HQJ.out; omega)
    rw [HIJ.out] at S4
    clear hpq
    go_wp2_with fail
    refine (store_at A1 c1 _ _ _ us HLU.out _ (by omega) (by omega) hv HR.out hwu).mono ?_
    rw [Wp.out, S1.out]; rintro e w2 ⟨A2, c2, rfl, ho2, hb2⟩
    have HO2 := Lib.hid ho2
    clear ho2
    go_wp2_with fail
    refine (store_at A2 c2 _ _ _ _ (by rw [List.length_set, HLU.out]) _ (by omega) (by omega) hu (row_rd HO2.out) Hset.out).mono ?_
    rw [Wq.out, S2.out]; rintro e w3 ⟨A3, c3, rfl, ho3, hb3⟩
    have HO3 := Lib.hid ho3
    clear ho3
    go_wp2_with fail
    refine (store_at A1 c1 _ _ _ us HLU.out _ (by omega) (by omega) hu ((HR.out.upto hb2).upto hb3) hwu).mono ?_
    rw [Wq.out, S3.out]; rintro e w4 ⟨A4, c4, rfl, ho4, hb4⟩
    have HO4 := Lib.hid ho4
    clear ho4
    go_wp2_with fail
    refine (store_at A4 c4 _ _ _ _ (by rw [List.length_set, HLU.out]) _ (by omega) (by omega) hv (row_rd HO4.out) Hset3.out).mono ?_
    rw [Wp.out, S4.out]; rintro e w5 ⟨A5, c5, rfl, ho5, hb5⟩
    have HO5 := Lib.hid ho5
    clear ho5
    go_wp2_with fail
    refine (same_at A3 A5 c3 c5 _ HL2.out _ (by omega) ((row_rd HO3.out).upto hb4 |>.upto hb5) (row_rd HO5.out)).mono ?_
    rintro e w6 ⟨rfl, hb6⟩
    go_wp2_with fail
    go_loop [19, 20] (fun z i => ∃ k : Nat, k ≤ 4 ∧ i = .int .u32 k ∧ z = .int .u32 ((u % 2 ^ (8 * k) : Nat) : Int)) (fun _ i => 4 - (intOf i).toNat)
    case atStart => exact ⟨0, Nat.zero_le _, rfl, by simp [Nat.mod_one]⟩
    case round =>
      obtain ⟨k, hk, rfl, rfl⟩ := hrel
      by_cases hlt : k < 4
      · obtain ⟨l1, l2⟩ := HLDh.out k hlt
        have L1 := Lib.hid l1
        have L2 := Lib.hid l2
        have HS := Lib.hid (or_step u k hu hlt)
        clear l1 l2
        go_wp2_with fail
        rw [show ((q : Nat) : Int) + (k : Int) = ((q + k : Nat) : Int) by omega]
        refine (load_at A3 c3 _ _ _ HL2.out _ (by omega) (by omega) ((row_rd HO3.out).upto hb4 |>.upto hb5 |>.upto hb6) Hset2.out).mono ?_
        rw [L1.out, L2.out]
        rintro e w' ⟨rfl, rfl⟩
        have hg := get8_lt u (8 * k)
        generalize hgg : get8 u (8 * k) = g8 at hg HS
        clear hgg
        go_wp2_with fail
        go_round
        case rel => exact ⟨k + 1, by omega, by go_num, by rw [← HS.out]; simp⟩
        case measure => simp [intOf]; omega
      · obtain rfl : k = 4 := by omega
        rw [Hu.out]
        go_wp2_with fail
        refine (awake4 _).mono ?_; rintro e w8 ⟨rfl, hb8⟩
        go_wp2_with fail
        go_ret
        exact ⟨rfl, HB.out.then (hb2.then (hb3.then (hb4.then (hb5.then (hb6.then hb8)))))⟩
end Go.Proofs.Ytmefbkfapeijgaa
