/- Paging: the walk of a page table. -/
import Derived.Test.YtmefbkfapeijgaaPagA
import Derived.Test.YtmefbkfapeijgaaLawE
namespace Go.Proofs.Ytmefbkfapeijgaa
open Go.RowKit

/-- The entry that a walk reads; whether it leads somewhere; the translation. -/
def pte (xs : List Nat) (root va : Nat) : Nat := xs.getD (32 * root + va / 128) 0
def wok (xs : List Nat) (root va : Nat) (a : Int) : Bool := knw a && decide (va < 4096) && decide (root < pg xs.length) && per (pte xs root va) a && decide (get8 (pte xs root va) 8 < pg xs.length)
def trn (x y : Nat) (c : Int) : Value := .agg #[.int .u32 x, .int .u32 y, .int .i64 c]
def wlk (xs : List Nat) (root va : Nat) (a : Int) : Nat × Nat × Int := if wok xs root va a then (128 * get8 (pte xs root va) 8 + va % 128, 128 * root + 4 * (va / 128), 0) else (0, 0, cau a)
def wlkV (xs : List Nat) (root va : Nat) (a : Int) : Value := trn (wlk xs root va a).1 (wlk xs root va a).2.1 (wlk xs root va a).2.2

set_option maxRecDepth 100000 in
set_option maxHeartbeats 1000000 in
theorem walk_any (A : Option Addr) (c root va : Nat) (a : Int) (xs : List Nat) (w : World) (hn : xs.length ≤ 1048576) (hroot : root < 4294967296) (hva : va < 4294967296) (hr : Rd w w.heap.size A (ws xs)) (hw : Wd xs) :
    Calls Try.prog 70 #[.slice A xs.length c, .int .u32 root, .int .u32 va, .int .i64 a] w fun e w' => e = .returned (wlkV xs root va a) ∧ Below w.heap.size w w' := by
  have hm : xs.length ≤ maxLen := by unfold maxLen; omega
  have HR := Lib.hid hr
  have HW := Lib.hid hw
  clear hr hw
  cases hk : knw a with
  | false =>
    have HV := Lib.hid (show wlkV xs root va a = trn 0 0 (cau a) by unfold wlkV wlk wok; rw [hk]; rfl)
    rw [HV.out]
    go_enter Try.func70, Try.ntmps70
    go_wp2_with fail
    refine (causeof_any _ _).mono ?_; rintro e w' ⟨rfl, rfl⟩
    go_wp2_with fail
    exact bodyPost_ret (v := trn 0 0 (cau a)) (by simp [results, Try.results70, go_sem, trn]) rfl ⟨rfl, ((Below.refl _ _).alloc (Nat.le_refl _) _).alloc (by simp) _⟩
  | true =>
    by_cases h1 : va < 4096
    · have g1 : decide (4096 ≤ (va : Int)) = false := by simp; omega
      by_cases h2 : root < pg xs.length
      · have hpg := pg_le xs.length
        have hp0 := pg_pos xs.length (by omega)
        have hx := HW.out.at_ (32 * root + va / 128)
        have HPt := Lib.hid (show pte xs root va = xs.getD (32 * root + va / 128) 0 from rfl)
        have HLd := Lib.hid (show ldv xs (128 * root + 4 * (va / 128)) 4 = pte xs root va by rw [show 128 * root + 4 * (va / 128) = 4 * (32 * root + va / 128) by omega]; exact ldv4 xs _ hp0 (by omega))
        have HWn := Lib.hid (show win xs.length (128 * root + 4 * (va / 128)) 4 = true by rw [show 128 * root + 4 * (va / 128) = 4 * (32 * root + va / 128) by omega]; exact win4 _ _ hp0 (by omega))
        rw [← HPt.out] at hx
        have HV : Hid (wlk xs root va a = if per (pte xs root va) a && decide (get8 (pte xs root va) 8 < pg xs.length) then (128 * get8 (pte xs root va) 8 + va % 128, 128 * root + 4 * (va / 128), 0) else (0, 0, cau a)) := by
          unfold Hid wlk wok; rw [hk, decide_eq_true h1, decide_eq_true h2]; simp only [Bool.true_and]
        generalize pte xs root va = q at hx HLd HV
        have hg8 := get8_lt q 8
        have HP0 := Lib.hid hp0
        clear hp0
        have h2' : decide (root < pg xs.length) = true := by simpa using h2
        cases h3 : per q a with
        | false =>
          have HF := Lib.hid (show wlkV xs root va a = trn 0 0 (cau a) by unfold wlkV; rw [HV.out, h3]; rfl)
          rw [HF.out]
          go_enter Try.func70, Try.ntmps70
          go_wp2_with fail
          refine (causeof_any _ _).mono ?_; rw [hk]; rintro e w' ⟨rfl, rfl⟩
          go_wp2_with fail
          refine (pispage_any _ _ _ _ _ hm hroot).mono ?_; rw [h2']; rintro e w' ⟨rfl, rfl⟩
          go_wp2_with fail
          rw [show (root : Int) * 128 + 4 * ((va : Int) / 128) = ((128 * root + 4 * (va / 128) : Nat) : Int) by omega]
          refine (load_any _ _ (128 * root + 4 * (va / 128)) 4 xs _ hm (by omega) (((HR.out.alloc (Nat.le_refl _) _).alloc (by simp) _).more (by simp; omega)) HW.out).mono ?_
          rw [HLd.out, HWn.out]; rintro e w' ⟨rfl, rfl⟩
          go_wp2_with fail
          refine (permits_any _ _ _ hx).mono ?_; rw [h3]; rintro e w' ⟨rfl, rfl⟩
          go_wp2_with fail
          exact bodyPost_ret (v := trn 0 0 (cau a)) (by simp [results, Try.results70, go_sem, trn]) rfl ⟨rfl, ((Below.refl _ _).alloc (Nat.le_refl _) _).alloc (by simp) _⟩
        | true =>
          by_cases h4 : get8 q 8 < pg xs.length
          · have HF := Lib.hid (show wlkV xs root va a = trn (128 * get8 q 8 + va % 128) (128 * root + 4 * (va / 128)) 0 by unfold wlkV; rw [HV.out, h3, decide_eq_true h4]; rfl)
            have h4' : decide (get8 q 8 < pg xs.length) = true := by simpa using h4
            rw [HF.out]
            go_enter Try.func70, Try.ntmps70
            go_wp2_with fail
            refine (causeof_any _ _).mono ?_; rw [hk]; rintro e w' ⟨rfl, rfl⟩
            go_wp2_with fail
            refine (pispage_any _ _ _ _ _ hm hroot).mono ?_; rw [h2']; rintro e w' ⟨rfl, rfl⟩
            go_wp2_with fail
            rw [show (root : Int) * 128 + 4 * ((va : Int) / 128) = ((128 * root + 4 * (va / 128) : Nat) : Int) by omega]
            refine (load_any _ _ (128 * root + 4 * (va / 128)) 4 xs _ hm (by omega) (((HR.out.alloc (Nat.le_refl _) _).alloc (by simp) _).more (by simp; omega)) HW.out).mono ?_
            rw [HLd.out, HWn.out]; rintro e w' ⟨rfl, rfl⟩
            go_wp2_with fail
            refine (permits_any _ _ _ hx).mono ?_; rw [h3]; rintro e w' ⟨rfl, rfl⟩
            go_wp2_with fail
            refine (frameof_any _ _ hx).mono ?_; rintro e w' ⟨rfl, rfl⟩
            go_wp2_with fail
            refine (pispage_any _ _ _ _ _ hm (by omega)).mono ?_; rw [h4']; rintro e w' ⟨rfl, rfl⟩
            go_wp2_with fail
            refine (frameof_any _ _ hx).mono ?_; rintro e w' ⟨rfl, rfl⟩
            go_wp2_with fail
            refine bodyPost_ret (v := .agg #[.int .u32 ((get8 q 8 : Int) * 128 + (va : Int) % 128), .int .u32 (128 * (root : Int) + 4 * ((va : Int) / 128)), .int .i64 0]) (by simp [results, Try.results70, go_sem]) rfl ⟨?_, ((Below.refl _ _).alloc (Nat.le_refl _) _).alloc (by simp) _⟩
            rw [show (get8 q 8 : Int) * 128 + (va : Int) % 128 = ((128 * get8 q 8 + va % 128 : Nat) : Int) by omega, show 128 * (root : Int) + 4 * ((va : Int) / 128) = ((128 * root + 4 * (va / 128) : Nat) : Int) by omega]
            rfl
          · have HF := Lib.hid (show wlkV xs root va a = trn 0 0 (cau a) by unfold wlkV; rw [HV.out, h3, decide_eq_false h4]; rfl)
            have h4' : decide (get8 q 8 < pg xs.length) = false := by simpa using h4
            rw [HF.out]
            go_enter Try.func70, Try.ntmps70
            go_wp2_with fail
            refine (causeof_any _ _).mono ?_; rw [hk]; rintro e w' ⟨rfl, rfl⟩
            go_wp2_with fail
            refine (pispage_any _ _ _ _ _ hm hroot).mono ?_; rw [h2']; rintro e w' ⟨rfl, rfl⟩
            go_wp2_with fail
            rw [show (root : Int) * 128 + 4 * ((va : Int) / 128) = ((128 * root + 4 * (va / 128) : Nat) : Int) by omega]
            refine (load_any _ _ (128 * root + 4 * (va / 128)) 4 xs _ hm (by omega) (((HR.out.alloc (Nat.le_refl _) _).alloc (by simp) _).more (by simp; omega)) HW.out).mono ?_
            rw [HLd.out, HWn.out]; rintro e w' ⟨rfl, rfl⟩
            go_wp2_with fail
            refine (permits_any _ _ _ hx).mono ?_; rw [h3]; rintro e w' ⟨rfl, rfl⟩
            go_wp2_with fail
            refine (frameof_any _ _ hx).mono ?_; rintro e w' ⟨rfl, rfl⟩
            go_wp2_with fail
            refine (pispage_any _ _ _ _ _ hm (by omega)).mono ?_; rw [h4']; rintro e w' ⟨rfl, rfl⟩
            go_wp2_with fail
            exact bodyPost_ret (v := trn 0 0 (cau a)) (by simp [results, Try.results70, go_sem, trn]) rfl ⟨rfl, ((Below.refl _ _).alloc (Nat.le_refl _) _).alloc (by simp) _⟩
      · have HV := Lib.hid (show wlkV xs root va a = trn 0 0 (cau a) by unfold wlkV wlk wok; rw [hk, decide_eq_false h2]; simp)
        have h2' : decide (root < pg xs.length) = false := by simpa using h2
        rw [HV.out]
        go_enter Try.func70, Try.ntmps70
        go_wp2_with fail
        refine (causeof_any _ _).mono ?_; rw [hk]; rintro e w' ⟨rfl, rfl⟩
        go_wp2_with fail
        refine (pispage_any _ _ _ _ _ hm hroot).mono ?_; rw [h2']; rintro e w' ⟨rfl, rfl⟩
        go_wp2_with fail
        exact bodyPost_ret (v := trn 0 0 (cau a)) (by simp [results, Try.results70, go_sem, trn]) rfl ⟨rfl, ((Below.refl _ _).alloc (Nat.le_refl _) _).alloc (by simp) _⟩
    · have HV := Lib.hid (show wlkV xs root va a = trn 0 0 (cau a) by unfold wlkV wlk wok; rw [hk, decide_eq_false h1]; simp)
      have g1 : decide (4096 ≤ (va : Int)) = true := by simp; omega
      rw [HV.out]
      go_enter Try.func70, Try.ntmps70
      go_wp2_with fail
      refine (causeof_any _ _).mono ?_; rw [hk]; rintro e w' ⟨rfl, rfl⟩
      go_wp2_with fail
      exact bodyPost_ret (v := trn 0 0 (cau a)) (by simp [results, Try.results70, go_sem, trn]) rfl ⟨rfl, ((Below.refl _ _).alloc (Nat.le_refl _) _).alloc (by simp) _⟩
end Go.Proofs.Ytmefbkfapeijgaa
