/- Paging: mapping a page, marking an entry, and the memory that a law makes out of its numbers. -/
import Derived.Test.YtmefbkfapeijgaaPagB
namespace Go.Proofs.Ytmefbkfapeijgaa
open Go.RowKit

/-- Whether a page can be mapped, and what mapping makes. -/
def mok (n root page frame flags : Nat) : Bool := decide (root < pg n) && decide (frame < pg n) && decide (page < 32) && decide (flags ≤ 31)
def mapW (xs : List Nat) (root page frame flags : Nat) : List Nat := if mok xs.length root page frame flags then xs.set (32 * root + page) (256 * frame + flags) else xs
theorem mapW_length (xs : List Nat) (root page frame flags : Nat) : (mapW xs root page frame flags).length = xs.length := by unfold mapW; split <;> simp
theorem mok_spec {n root page frame flags : Nat} (h : mok n root page frame flags = true) : root < pg n ∧ frame < pg n ∧ page < 32 ∧ flags ≤ 31 := by
  simp [mok] at h; omega
theorem Wd.mapW {xs : List Nat} (h : Wd xs) (root page frame flags : Nat) : Wd (mapW xs root page frame flags) := by
  unfold Proofs.Ytmefbkfapeijgaa.mapW
  split
  · rename_i hk
    have := mok_spec hk
    have := pg_le xs.length
    exact h.set _ _ (by omega)
  · exact h
/-- What a function that makes a list of words hands back. -/
def WsOut (n : Nat) (us : List Nat) (w : World) (e : Ending) (w' : World) : Prop := ∃ A c, e = .returned (.slice A n c) ∧ w'.ownsRow w.heap.size 24 1 (.slice A n c) n (ws us) ∧ Below w.heap.size w w'
def WsOk (n : Nat) (ok : Bool) (us : List Nat) (w : World) (e : Ending) (w' : World) : Prop := ∃ A c, e = .returned (.tuple #[.slice A n c, .bool ok]) ∧ w'.ownsRow w.heap.size 24 1 (.slice A n c) n (ws us) ∧ Below w.heap.size w w'

theorem flag_or (frame flags : Nat) (hf : frame < 256) (hg : flags < 256) : bits BinOp.or IntKind.u32 ((frame : Int) * 256) (flags : Int) = ((256 * frame + flags : Nat) : Int) := by
  rw [show (frame : Int) * 256 = ((frame * 256 : Nat) : Int) by omega, u32_or_nat _ _ (by omega) (by omega), nat_join 8 _ _ (by omega) (by omega)]
  omega

set_option maxRecDepth 100000 in
set_option maxHeartbeats 1000000 in
theorem map_any (A : Option Addr) (c root page frame flags : Nat) (xs : List Nat) (w : World) (hn : xs.length ≤ 1048576) (h1 : root < 4294967296) (h2 : page < 4294967296) (h3 : frame < 4294967296) (h4 : flags < 4294967296) (hr : Rd w w.heap.size A (ws xs)) (hw : Wd xs) :
    Calls Try.prog 69 #[.slice A xs.length c, .int .u32 root, .int .u32 page, .int .u32 frame, .int .u32 flags] w (WsOk xs.length (mok xs.length root page frame flags) (mapW xs root page frame flags) w) := by
  have hm : xs.length ≤ maxLen := by unfold maxLen; omega
  have HR := Lib.hid hr
  have HW := Lib.hid hw
  clear hr hw
  have CC := Lib.hid (clone_any A c xs w (by omega) HR.out)
  cases e1 : decide (root < pg xs.length) with
  | false =>
    have HM := Lib.hid (show mok xs.length root page frame flags = false by simp only [mok, e1]; simp)
    have HX := Lib.hid (show mapW xs root page frame flags = xs by unfold mapW; rw [HM.out]; rfl)
    go_enter Try.func69, Try.ntmps69
    go_wp2_with fail
    refine (pispage_any _ _ _ _ _ hm h1).mono ?_; rw [e1]; rintro e w' ⟨rfl, rfl⟩
    go_wp2_with fail
    refine CC.out.mono ?_; rintro e w1 ⟨A', c', rfl, ho, hb⟩
    have HO := Lib.hid ho
    clear ho
    go_wp2_with fail
    go_ret2
    exact ⟨A', c', by rw [HM.out]; rfl, by rw [HX.out]; exact HO.out, hb⟩
  | true =>
    cases e2 : decide (frame < pg xs.length) with
    | false =>
      have HM := Lib.hid (show mok xs.length root page frame flags = false by simp only [mok, e1, e2]; simp)
      have HX := Lib.hid (show mapW xs root page frame flags = xs by unfold mapW; rw [HM.out]; rfl)
      go_enter Try.func69, Try.ntmps69
      go_wp2_with fail
      refine (pispage_any _ _ _ _ _ hm h1).mono ?_; rw [e1]; rintro e w' ⟨rfl, rfl⟩
      go_wp2_with fail
      refine (pispage_any _ _ _ _ _ hm h3).mono ?_; rw [e2]; rintro e w' ⟨rfl, rfl⟩
      go_wp2_with fail
      refine CC.out.mono ?_; rintro e w1 ⟨A', c', rfl, ho, hb⟩
      have HO := Lib.hid ho
      clear ho
      go_wp2_with fail
      go_ret2
      exact ⟨A', c', by rw [HM.out]; rfl, by rw [HX.out]; exact HO.out, hb⟩
    | true =>
      by_cases h5 : page < 32
      · have g5 : decide (32 ≤ (page : Int)) = false := by simp; omega
        by_cases h6 : flags ≤ 31
        · have g6 : decide (31 < (flags : Int)) = false := by simp; omega
          have HM := Lib.hid (show mok xs.length root page frame flags = true by simp only [mok, e1, e2]; simp; omega)
          obtain ⟨r1, r2, r3, r4⟩ := mok_spec HM.out
          have hpg := pg_le xs.length
          have hp0 := Lib.hid (pg_pos xs.length (by omega))
          have HX := Lib.hid (show stv xs (128 * root + 4 * page) 4 (256 * frame + flags) = mapW xs root page frame flags by
            unfold mapW; rw [HM.out, if_pos rfl, show 128 * root + 4 * page = 4 * (32 * root + page) by omega]; exact stv4 xs _ _ hp0.out (by have := hp0.out; omega))
          have HWn := Lib.hid (show win xs.length (128 * root + 4 * page) 4 = true by rw [show 128 * root + 4 * page = 4 * (32 * root + page) by omega]; exact win4 _ _ hp0.out (by have := hp0.out; omega))
          have hfl := Lib.hid (flag_or frame flags (by omega) (by omega))
          go_enter Try.func69, Try.ntmps69
          go_wp2_with fail
          refine (pispage_any _ _ _ _ _ hm h1).mono ?_; rw [e1]; rintro e w' ⟨rfl, rfl⟩
          go_wp2_with fail
          refine (pispage_any _ _ _ _ _ hm h3).mono ?_; rw [e2]; rintro e w' ⟨rfl, rfl⟩
          go_wp2_with fail
          rw [hfl.out, show (root : Int) * 128 + 4 * (page : Int) = ((128 * root + 4 * page : Nat) : Int) by omega]
          refine (store_any A c (128 * root + 4 * page) 4 (256 * frame + flags) xs _ (by omega) (by omega) (by omega) HR.out HW.out).mono ?_
          rw [HX.out, HWn.out]; rintro e w1 ⟨A', c', rfl, ho, hb⟩
          have HO := Lib.hid ho
          clear ho
          go_wp2_with fail
          go_ret2
          exact ⟨A', c', by rw [HM.out]; rfl, HO.out, hb⟩
        · have g6 : decide (31 < (flags : Int)) = true := by simp; omega
          have HM := Lib.hid (show mok xs.length root page frame flags = false by simp only [mok, e1, e2]; simp; omega)
          have HX := Lib.hid (show mapW xs root page frame flags = xs by unfold mapW; rw [HM.out]; rfl)
          go_enter Try.func69, Try.ntmps69
          go_wp2_with fail
          refine (pispage_any _ _ _ _ _ hm h1).mono ?_; rw [e1]; rintro e w' ⟨rfl, rfl⟩
          go_wp2_with fail
          refine (pispage_any _ _ _ _ _ hm h3).mono ?_; rw [e2]; rintro e w' ⟨rfl, rfl⟩
          go_wp2_with fail
          refine CC.out.mono ?_; rintro e w1 ⟨A', c', rfl, ho, hb⟩
          have HO := Lib.hid ho
          clear ho
          go_wp2_with fail
          go_ret2
          exact ⟨A', c', by rw [HM.out]; rfl, by rw [HX.out]; exact HO.out, hb⟩
      · have g5 : decide (32 ≤ (page : Int)) = true := by simp; omega
        have HM := Lib.hid (show mok xs.length root page frame flags = false by simp only [mok, e1, e2]; simp; omega)
        have HX := Lib.hid (show mapW xs root page frame flags = xs by unfold mapW; rw [HM.out]; rfl)
        go_enter Try.func69, Try.ntmps69
        go_wp2_with fail
        refine (pispage_any _ _ _ _ _ hm h1).mono ?_; rw [e1]; rintro e w' ⟨rfl, rfl⟩
        go_wp2_with fail
        refine (pispage_any _ _ _ _ _ hm h3).mono ?_; rw [e2]; rintro e w' ⟨rfl, rfl⟩
        go_wp2_with fail
        refine CC.out.mono ?_; rintro e w1 ⟨A', c', rfl, ho, hb⟩
        have HO := Lib.hid ho
        clear ho
        go_wp2_with fail
        go_ret2
        exact ⟨A', c', by rw [HM.out]; rfl, by rw [HX.out]; exact HO.out, hb⟩

/-- What marking an entry makes. -/
def tv (q : Nat) (a : Int) : Nat := if a = 3 then q ||| 8 ||| 16 else q ||| 8
def tchW (xs : List Nat) (e : Nat) (a : Int) : List Nat := if win xs.length e 4 then xs.set (e / 4) (tv (xs.getD (e / 4) 0) a) else xs
theorem or_lt (q m : Nat) (hq : q < 4294967296) (hm : m < 4294967296) : q ||| m < 4294967296 := Nat.or_lt_two_pow (n := 32) hq hm
theorem tv_lt (q : Nat) (a : Int) (hq : q < 4294967296) : tv q a < 4294967296 := by
  unfold tv; split
  · exact or_lt _ _ (or_lt _ _ hq (by omega)) (by omega)
  · exact or_lt _ _ hq (by omega)
theorem tchW_length (xs : List Nat) (e : Nat) (a : Int) : (tchW xs e a).length = xs.length := by unfold tchW; split <;> simp
theorem Wd.tchW {xs : List Nat} (h : Wd xs) (e : Nat) (a : Int) : Wd (tchW xs e a) := by
  unfold Proofs.Ytmefbkfapeijgaa.tchW
  split
  · exact h.set _ _ (tv_lt _ _ (h.at_ _))
  · exact h

set_option maxRecDepth 100000 in
set_option maxHeartbeats 1000000 in
theorem touch_any (A : Option Addr) (c e : Nat) (a : Int) (xs : List Nat) (w : World) (hn : xs.length ≤ 1048576) (he : e < 4294967296) (hr : Rd w w.heap.size A (ws xs)) (hw : Wd xs) :
    Calls Try.prog 73 #[.slice A xs.length c, .int .u32 e, .int .i64 a] w (WsOut xs.length (tchW xs e a) w) := by
  have hm : xs.length ≤ maxLen := by unfold maxLen; omega
  have HR := Lib.hid hr
  have HW := Lib.hid hw
  clear hr hw
  cases hwin : win xs.length e 4 with
  | false =>
    have HX := Lib.hid (show tchW xs e a = xs by unfold tchW; rw [hwin]; rfl)
    go_enter Try.func73, Try.ntmps73
    go_wp2_with fail
    refine (load_any _ _ _ _ xs _ hm he HR.out HW.out).mono ?_
    rw [hwin]; rintro e w' ⟨rfl, rfl⟩
    go_wp2_with fail
    refine (clone_any _ _ _ _ (by omega) HR.out).mono ?_; rintro e w1 ⟨A', c', rfl, ho, hb⟩
    have HO := Lib.hid ho
    clear ho
    go_wp2_with fail
    go_ret
    exact ⟨A', c', rfl, by rw [HX.out]; exact HO.out, hb⟩
  | true =>
    have hx := HW.out.at_ (e / 4)
    have HX := Lib.hid (show tchW xs e a = stv xs e 4 (tv (xs.getD (e / 4) 0) a) by unfold tchW stv stw; rw [hwin]; rfl)
    have HL := Lib.hid (show ldv xs e 4 = xs.getD (e / 4) 0 by unfold ldv; rw [hwin]; rfl)
    generalize xs.getD (e / 4) 0 = q at hx HX HL
    have hor := Lib.hid (show bits BinOp.or IntKind.u32 (q : Int) 8 = ((q ||| 8 : Nat) : Int) from u32_or_nat q 8 hx (by omega))
    have hor2 := Lib.hid (show bits BinOp.or IntKind.u32 ((q ||| 8 : Nat) : Int) 16 = ((q ||| 8 ||| 16 : Nat) : Int) from u32_or_nat (q ||| 8) 16 (or_lt _ _ hx (by omega)) (by omega))
    by_cases h3 : a = 3
    · subst h3
      have HT := Lib.hid (show tv q 3 = q ||| 8 ||| 16 from rfl)
      go_enter Try.func73, Try.ntmps73
      go_wp2_with fail
      refine (load_any _ _ _ _ xs _ hm he HR.out HW.out).mono ?_
      rw [hwin, HL.out]; rintro e w' ⟨rfl, rfl⟩
      go_wp2_with fail
      rw [hor.out, hor2.out, ← HT.out]
      refine (store_any A c _ 4 (tv q 3) xs _ (by omega) he (tv_lt _ _ hx) HR.out HW.out).mono ?_
      rw [← HX.out]; rintro e w1 ⟨A', c', rfl, ho, hb⟩
      have HO := Lib.hid ho
      clear ho
      go_wp2_with fail
      go_ret
      exact ⟨A', c', rfl, HO.out, hb⟩
    · have HT := Lib.hid (show tv q a = q ||| 8 by unfold tv; rw [if_neg h3])
      have g3 : (a == 3) = false := by simpa using h3
      clear h3
      go_enter Try.func73, Try.ntmps73
      go_wp2_with fail
      refine (load_any _ _ _ _ xs _ hm he HR.out HW.out).mono ?_
      rw [hwin, HL.out]; rintro e w' ⟨rfl, rfl⟩
      go_wp2_with fail
      rw [hor.out, ← HT.out]
      refine (store_any A c _ 4 (tv q a) xs _ (by omega) he (tv_lt _ _ hx) HR.out HW.out).mono ?_
      rw [← HX.out]; rintro e w1 ⟨A', c', rfl, ho, hb⟩
      have HO := Lib.hid ho
      clear ho
      go_wp2_with fail
      go_ret
      exact ⟨A', c', rfl, HO.out, hb⟩
end Go.Proofs.Ytmefbkfapeijgaa
