/- paging.table: the iterator's contract. -/
import Derived.Test.YtnmomjaockmdpaaPmL
namespace Go.Proofs.Ytnmomjaockmdpaa
open Go Go.RowKit Go.Shelf
set_option linter.unusedSimpArgs false
set_option linter.unusedVariables false
attribute [local go_sem] Oper.semAt_some

/-- A block of cells lies as it lay. -/
def KB (B : Nat) (W W' : World) : Prop := ∀ c t fz, W.heap[B]? = some (.cells c t fz) → W'.heap[B]? = some (.cells c t fz)
def KP (n₀ Bm Br : Nat) (W W' : World) : Prop := Below n₀ W W' ∧ KB Bm W W' ∧ KB Br W W'
theorem KP.trans {n₀ Bm Br : Nat} {A B C : World} (h : KP n₀ Bm Br A B) (k : KP n₀ Bm Br B C) : KP n₀ Bm Br A C :=
  ⟨h.1.trans k.1, fun c t fz e => k.2.1 c t fz (h.2.1 c t fz e), fun c t fz e => k.2.2 c t fz (h.2.2 c t fz e)⟩
theorem KB.putObj {B : Nat} {W : World} {l : Nat} {o o' : Obj} (hl : W.heap[l]? = some o) (ho : o.isCells = false) : KB B W (W.putObj l o') := fun c t fz e => by
  have hne : B ≠ l := fun h => by
    subst h
    rw [e] at hl
    injection hl with hl
    subst hl
    cases ho
  exact (World.putObj_heap_other hne).trans e
theorem KP.put {n₀ Bm Br : Nat} {w : World} (hn : n₀ ≤ w.heap.size) : ∀ (W : World) (l : Nat) (o o' : Obj), w.heap.size ≤ l → W.heap[l]? = some o → o.isCells = false → o.isWalk = false → KP n₀ Bm Br W (W.putObj l o') :=
  fun W l o o' hl h1 h2 h3 => ⟨belowK_b hn W l o o' hl h1 h2 h3, KB.putObj h1 h2, KB.putObj h1 h2⟩
set_option maxRecDepth 100000 in
set_option maxHeartbeats 2000000 in
theorem table1_in (k : Nat) (hk : 1 ≤ k) (l Bm Br n₀ : Nat) (m : Value) (xs : List Nat) (n r : Nat) (p : PL) (hl : xs.length = n) (hn : n < 4294967296) (hxr : ∀ y ∈ xs, y < 4294967296) (hr : r < 4294967296) (J Jx : List (Nat × Nat) → World → Prop)
    (W : World) (hn₀ : n₀ ≤ W.heap.size) (tm tr : TypeId) (hJ : AbidesFrom W.heap.size J)
    (hY : ∀ pre x W, J pre W → pre.length < 32 → YieldAt Fence.wide (k - 1) Try.prog l (enP x) W fun e W' =>
      (e = .returned (.bool true) ∧ J (pre ++ [x]) W' ∧ KP n₀ Bm Br W W') ∨ (e = .returned (.bool false) ∧ Jx (pre ++ [x]) W'))
    (hbm : Boxed W Bm tm m) (hbr : Boxed W Br tr (.int .u32 r)) (hWd : WdIn W n₀ m n (wsv xs) p) (h0 : J [] W) :
    CallsIn Fence.wide k Try.prog 31 #[.func (.yield l) #[] #[], .pointer (some ⟨Bm, 0, none⟩), .pointer (some ⟨Br, 0, none⟩)] W fun e W' => (∃ v, e = .returned v) ∧
      ((∃ ys, ys = genP xs r (if r < mpg n then 32 else 0) ∧ J ys W') ∨ (∃ pre, pre <+: genP xs r (if r < mpg n then 32 else 0) ∧ Jx pre W')) := by
  refine callsIn_of_wp Try.func31 rfl trivial ?_ rfl
  simp only [Try.ntmps31, List.size_toArray, List.length_cons, List.length_nil, Nat.reduceAdd, Nat.reduceSub, Array.replicate_succ, Array.replicate_zero, List.push_toArray, List.append_toArray, List.nil_append, List.cons_append]
  have hgm : ∀ {A B : World}, A.grownBy B none → A.heap.size ≤ B.heap.size := fun h => h.size
  have hmp := mpg_le n
  have hm := hbm.cell
  have hrc := hbr.cell
  have hmn : mpg n * 32 ≤ n := by unfold mpg; split <;> omega
  by_cases hrm : r < mpg n
  rotate_left
  · rw [if_neg hrm]
    have hip := isPage_calls hWd hn r hr
    rw [decide_eq_false hrm] at hip
    gi_wp2_with (refine ⟨trivial, ?_⟩; gi_at_call 16; refine (callsIn_wide.2 hip).mono ?_; rintro e w1 ⟨rfl, hg1⟩)
    refine bodyPost_ret (results_none rfl _ _ _) rfl ?_
    exact ⟨⟨_, rfl⟩, .inl ⟨[], rfl, hJ _ _ _ none h0 hg1 (fun r e => by cases e)⟩⟩
  rw [if_pos hrm]
  have hip := isPage_calls hWd hn r hr
  rw [decide_eq_true hrm] at hip
  gi_wp2_with (refine ⟨trivial, ?_⟩; gi_at_call 16; refine (callsIn_wide.2 hip).mono ?_; rintro e w1 ⟨rfl, hg1⟩)
  have hJ1 : J (genP xs r 0) w1 := hJ _ _ _ none h0 hg1 (fun r e => by cases e)
  have hB1 : Below n₀ W w1 := (Below.refl n₀ W).grown hg1 hn₀ (fun j e => by cases e)
  have hbm1 := hbm.kept hg1 (by simp)
  have hbr1 := hbr.kept hg1 (by simp)
  gi_loopw [11] (fun pv wr => ∃ q : Nat, pv = .int .u32 q ∧ q ≤ 32 ∧ J (genP xs r q) wr ∧ Below n₀ W wr ∧ W.heap.size ≤ wr.heap.size ∧ Boxed wr Bm tm m ∧ Boxed wr Br tr (.int .u32 r))
    (fun pv wr => 32 - (intOf pv).toNat)
  case atStart =>
    exact ⟨0, rfl, by omega, hJ1, hB1, hg1.size, hbm1, hbr1⟩
  case round =>
    obtain ⟨q, rfl, hq, hJq, hBq, hsz, hbmq, hbrq⟩ := hrel
    have hmq := hbmq.cell
    have hrq := hbrq.cell
    have hWq := hWd.below hBq
    by_cases hq32 : q < 32
    · have hld := load_calls hWq hl hn (r * 128 + 4 * q) (by omega) (by unfold ld4; rw [decide_eq_true (by omega), decide_eq_true (by omega)]; rfl)
      rw [show (r * 128 + 4 * q) / 4 = r * 32 + q by omega] at hld
      change Calls _ _ _ _ (fun e w' => e = .returned (.tuple #[.int .u32 (ptW xs r q : Nat), .bool true]) ∧ _) at hld
      have hpq : ptW xs r q < 4294967296 := getD_ltW hxr _
      have henc : enP (q, ptW xs r q) = #[.int .u32 (q : Nat), .int .u32 (ptW xs r q : Nat)] := by
        unfold enP
        rw [Nat.mod_eq_of_lt (by show q < _; omega), Nat.mod_eq_of_lt hpq]
      have e1 : IntKind.u32.wrap ((r : Int) * 128) = ((r * 128 : Nat) : Int) := by rw [wu32 (by omega) (by omega)]; omega
      have e2 : IntKind.u32.wrap (4 * (q : Int)) = ((4 * q : Nat) : Int) := by rw [wu32 (by omega) (by omega)]; omega
      have e3 : IntKind.u32.wrap (((r * 128 : Nat) : Int) + ((4 * q : Nat) : Int)) = ((r * 128 + 4 * q : Nat) : Int) := by rw [wu32 (by omega) (by omega)]; omega
      gi_wp2_with (refine ⟨trivial, ?_⟩; gi_at_call 26; refine (callsIn_wide.2 hld).mono ?_; rintro e w2 ⟨rfl, hg2⟩; have hJ2 : J (genP xs r q) w2 := hJ _ _ _ none hJq hg2 (fun r e => by cases e); obtain ⟨fn, tmps, assign, body, hy, hR⟩ := hY (genP xs r q) (q, ptW xs r q) w2 hJ2 (by rw [genP_len]; omega); rw [henc] at hy)
      refine hR.mono ?_
      rintro e W3 (⟨rfl, hJ3, hk3⟩ | ⟨rfl, hJx3⟩)
      · gi_wp2
        go_roundw
        case rel => exact ⟨q + 1, by congr 1, by omega, hJ3, (hBq.grown hg2 (by omega) (fun j e => by cases e)).trans hk3.1, by have := hk3.1.size; have := hg2.size; omega, hk3.2.1 _ _ _ (hbmq.kept hg2 (by simp)), hk3.2.2 _ _ _ (hbrq.kept hg2 (by simp))⟩
        case measure => simp [intOf]; omega
      · gi_wp2
        refine bodyPost_ret (results_none rfl _ _ _) rfl ?_
        exact ⟨⟨_, rfl⟩, .inr ⟨genP xs r (q + 1), by have := genP_pre xs r (q + 1) (32 - (q + 1)); rwa [show q + 1 + (32 - (q + 1)) = 32 by omega] at this, hJx3⟩⟩
    · obtain rfl : q = 32 := by omega
      gi_wp2
      go_end0
      exact ⟨⟨_, rfl⟩, .inl ⟨_, rfl, hJq⟩⟩
set_option maxHeartbeats 1000000 in
theorem table_in (k : Nat) (A : Option Addr) (N c : Nat) (r : Nat) (w : World) :
    CallsIn Fence.wide k Try.prog 20 #[.slice A N c, .int .u32 r] w fun e w' => e = .returned (.func (.func 31) #[] #[.pointer (some ⟨w.heap.size, 0, none⟩), .pointer (some ⟨w.heap.size + 1, 0, none⟩)]) ∧
      w' = (w.alloc (.cells #[.slice A N c] 22)).alloc (.cells #[.int .u32 r] 24) := by
  refine callsIn_of_wp Try.func20 rfl trivial ?_ rfl
  simp only [Try.ntmps20, List.size_toArray, List.length_cons, List.length_nil, Nat.reduceAdd, Nat.reduceSub, Array.replicate_succ, Array.replicate_zero, List.push_toArray, List.append_toArray, List.nil_append, List.cons_append]
  gi_wp2
  go_ret
  exact ⟨rfl, rfl⟩
theorem table_stops (k : Nat) (hk : 1 ≤ k) (Bm Br n₀ : Nat) (m : Value) (xs : List Nat) (n r : Nat) (p : PL) (hl : xs.length = n) (hn : n < 4294967296) (hxr : ∀ y ∈ xs, y < 4294967296) (hr : r < 4294967296)
    (w : World) (hn₀ : n₀ ≤ w.heap.size) (tm tr : TypeId) (hm : Boxed w Bm tm m) (hrc : Boxed w Br tr (.int .u32 r)) (hWd : WdIn w n₀ m n (wsv xs) p) :
    SeqStopsK Fence.wide k Try.prog 31 #[.pointer (some ⟨Bm, 0, none⟩), .pointer (some ⟨Br, 0, none⟩)] enP (KP n₀ Bm Br) (fun ys => ys = genP xs r (if r < mpg n then 32 else 0)) (fun pre => pre <+: genP xs r (if r < mpg n then 32 else 0)) 32 w :=
  fun l J Jx W hW hJ _ hY h0 =>
    table1_in k hk l Bm Br n₀ m xs n r p hl hn hxr hr J Jx W (Nat.le_trans hn₀ hW.size) tm tr hJ hY ((hW.block Bm hm.lt).trans hm) ((hW.block Br hrc.lt).trans hrc) (hWd.below (hW.mono hn₀)) h0
end Go.Proofs.Ytnmomjaockmdpaa
