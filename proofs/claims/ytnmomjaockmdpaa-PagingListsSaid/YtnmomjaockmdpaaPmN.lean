/- paging.List: the caller. -/
import Derived.Test.YtnmomjaockmdpaaPmM
import Derived.Test.YtnmomjaockmdpaaWord
namespace Go.Proofs.Ytnmomjaockmdpaa
open Go Go.RowKit Go.Shelf
set_option linter.unusedSimpArgs false
set_option linter.unusedVariables false
attribute [local go_sem] Oper.semAt_some

theorem infoMp : (Try.prog.info? 40).map (fun i => (i.zero, i.size, i.bytes)) = some (some (.agg #[.int .u32 0, .int .u32 0, .int .u32 0]), 3, 12) := by kernel_rfl
/-- The mappings of what has come. -/
def colP : List (Nat × Nat) → List Mp
  | [] => []
  | x :: l => if (x.2 % 4294967296) &&& 1 ≠ 0 then ⟨x.1 % 4294967296, frW (x.2 % 4294967296), (x.2 % 4294967296) &&& 31⟩ :: colP l else colP l
theorem colP_app : ∀ (l l' : List (Nat × Nat)), colP (l ++ l') = colP l ++ colP l'
  | [], l' => rfl
  | x :: l, l' => by
    have h1 : colP ((x :: l) ++ l') = if (x.2 % 4294967296) &&& 1 ≠ 0 then ⟨x.1 % 4294967296, frW (x.2 % 4294967296), (x.2 % 4294967296) &&& 31⟩ :: colP (l ++ l') else colP (l ++ l') := rfl
    have h2 : colP (x :: l) = if (x.2 % 4294967296) &&& 1 ≠ 0 then ⟨x.1 % 4294967296, frW (x.2 % 4294967296), (x.2 % 4294967296) &&& 31⟩ :: colP l else colP l := rfl
    rw [h1, h2, colP_app l l']
    split <;> rfl
theorem colP_yes (pre : List (Nat × Nat)) {x : Nat × Nat} (h : (x.2 % 4294967296) &&& 1 ≠ 0) : colP (pre ++ [x]) = colP pre ++ [⟨x.1 % 4294967296, frW (x.2 % 4294967296), (x.2 % 4294967296) &&& 31⟩] := by
  rw [colP_app]; congr 1; exact if_pos h
theorem colP_no (pre : List (Nat × Nat)) {x : Nat × Nat} (h : (x.2 % 4294967296) &&& 1 = 0) : colP (pre ++ [x]) = colP pre := by
  rw [colP_app, show colP [x] = [] from if_neg (fun h2 => h2 h), List.append_nil]
theorem colP_len : ∀ l : List (Nat × Nat), (colP l).length ≤ l.length
  | [] => Nat.le_refl _
  | x :: l => by
    have := colP_len l
    unfold colP
    split <;> simp only [List.length_cons] <;> omega
def mpv : List Mp → List Value
  | [] => []
  | e :: l => [.int .u32 e.p, .int .u32 e.f, .int .u32 e.g] ++ mpv l
theorem mpv_app : ∀ (l l' : List Mp), mpv (l ++ l') = mpv l ++ mpv l'
  | [], l' => rfl
  | e :: l, l' => by show [_, _, _] ++ mpv (l ++ l') = ([_, _, _] ++ mpv l) ++ mpv l'; rw [mpv_app l l', List.append_assoc]
theorem colP_gen (xs : List Nat) (hxr : ∀ y ∈ xs, y < 4294967296) (r : Nat) : ∀ k, k ≤ 4294967296 → colP (genP xs r k) = lstF xs r k
  | 0, _ => rfl
  | k + 1, hk => by
    have hw : ptW xs r k < 4294967296 := getD_ltW hxr _
    have e2 : ptW xs r k % 4294967296 = ptW xs r k := Nat.mod_eq_of_lt hw
    have e1 : k % 4294967296 = k := Nat.mod_eq_of_lt (by omega)
    have ih := colP_gen xs hxr r k (by omega)
    show colP (genP xs r k ++ [(k, ptW xs r k)]) = _
    by_cases h : ptW xs r k &&& 1 ≠ 0
    · rw [colP_yes _ (by show (ptW xs r k % 4294967296) &&& 1 ≠ 0; rw [e2]; exact h), lstF_yes h, ih]
      congr 1
      show [(⟨k % 4294967296, frW (ptW xs r k % 4294967296), (ptW xs r k % 4294967296) &&& 31⟩ : Mp)] = [⟨k, frW (ptW xs r k), ptW xs r k &&& 31⟩]
      rw [e1, e2]
    · rw [colP_no _ (by show (ptW xs r k % 4294967296) &&& 1 = 0; rw [e2]; omega), lstF_no (by omega), ih]
theorem cell_three_new (w : World) (x y z : Value) (t : TypeId) : ∀ j u, [x, y, z][j]? = some u → (w.alloc (.cells #[x, y, z] t)).cell? ((⟨w.heap.size, 0, none⟩ : Addr).add j) = some u := by
  intro j u hj
  have hb : (w.alloc (.cells #[x, y, z] t)).heap[w.heap.size]? = some (.cells #[x, y, z] t (0, 0)) := World.alloc_heap_new w _
  have hk : ∀ i, (w.alloc (.cells #[x, y, z] t)).cell? ⟨w.heap.size, i, none⟩ = (#[x, y, z] : Array Value)[i]? := fun i => by
    unfold World.cell?
    simp only []
    rw [hb]; rfl
  match j, hj with
  | 0, hj => injection hj with hj; subst hj; exact hk 0
  | 1, hj => injection hj with hj; subst hj; exact hk 1
  | 2, hj => injection hj with hj; subst hj; exact hk 2
  | j + 3, hj => simp at hj
set_option maxHeartbeats 400000 in
theorem mask8_w (w : World) : Calls Try.prog 34 #[.int .i64 8] w fun e w' => e = .returned (.int .u32 255) ∧ w = w' := by
  go_enter Try.func34, Try.ntmps34
  go_wp2
  go_ret
  exact ⟨rfl, rfl⟩
set_option maxHeartbeats 400000 in
theorem field8_w (x : Nat) (w : World) (hx : x < 4294967296) :
    Calls Try.prog 32 #[.int .u32 x, .int .i64 8, .int .i64 8] w fun e w' => e = .returned (.int .u32 (frW x : Nat)) ∧ w = w' := by
  go_enter Try.func32, Try.ntmps32
  go_wp2_with (go_at_call 34; refine (mask8_w _).mono ?_; rintro e w' ⟨rfl, rfl⟩)
  go_ret
  exact ⟨ret_int (get8_int x 8 hx), rfl⟩
set_option maxHeartbeats 400000 in
theorem frame_w (p : Nat) (w : World) (hp : p < 4294967296) :
    Calls Try.prog 21 #[.int .u32 p] w fun e w' => e = .returned (.int .u32 (frW p : Nat)) ∧ w = w' := by
  go_enter Try.func21, Try.ntmps21
  go_wp2_with (go_at_call 32; refine (field8_w _ _ hp).mono ?_; rintro e w' ⟨rfl, rfl⟩)
  go_ret
  exact ⟨rfl, rfl⟩
theorem boxed_own (n₀ B : Nat) (t : TypeId) (v : Value) {β : Type} : OwnFrom n₀ (fun (_ : β) W => Boxed W B t v) := fun s X Y row h hg hr =>
  h.kept hg (fun e => by
    obtain ⟨_, o, ho, hc⟩ := hr B e.symm
    rw [show X.heap[B]? = _ from h] at ho; cases ho; cases hc)
theorem KB.of_boxed {B : Nat} {t : TypeId} {v : Value} {W W' : World} (h : Boxed W B t v) (h' : Boxed W' B t v) : KB B W W' := fun c t' fz e => by
  rw [show W.heap[B]? = _ from h] at e
  rw [← e]; exact h'
def noDef (ops : Array Oper) : Bool := ops.all fun o => match o.op with | .defer _ => false | _ => true
theorem noDef_spec {ops : Array Oper} (h : noDef ops = true) {i : Nat} {o : Oper} (hi : ops[i]? = some o) : ∀ c, o.op ≠ .defer c := fun c e => by
  unfold noDef at h
  rw [Array.all_eq_true] at h
  obtain ⟨hlt, hx⟩ := Array.getElem?_eq_some_iff.1 hi
  have := h i hlt
  rw [hx, e] at this
  cases this
theorem wpOpIn_round {F : Fence} {n : Nat} {P : Program} {ops : Array Oper} {Q : Exit → Act → World → Prop} {l : Nat} (hro : F.round = none) (h : noDef ops = true) (i : Nat) (K : Act → World → Prop) (a : Act) (w : World) : wpOpIn (F.inRound l) n P ops Q i K a w = wpOpIn F n P ops Q i K a w := by
  unfold wpOpIn
  cases e : ops[i]? with
  | none => rfl
  | some o =>
    have hd := noDef_spec h e
    have e1 : o.semAt (F.inRound l).round a.eval = execOp a.eval o := Oper.semAt_eq _ _ _ hd
    have e2 : o.semAt F.round a.eval = execOp a.eval o := Oper.semAt_eq _ _ _ hd
    simp only [Oper.wpIn, e1, e2]
    rfl
theorem wpAnyIn_round {F : Fence} {n : Nat} {P : Program} {md : Region.Mode} {ops : Array Oper} {Q : Exit → Act → World → Prop} {l : Nat} (hro : F.round = none) (h : noDef ops = true) : ∀ {fuel : Nat} {listed : Array Bool} {a : Act} {w : World}, wpAnyIn (F.inRound l) n P md ops Q fuel listed a w = wpAnyIn F n P md ops Q fuel listed a w
  | 0, _, _, _ => rfl
  | fuel + 1, listed, a, w => by
    have ih : ∀ i, wpAnyIn (F.inRound l) n P md ops Q fuel (listed.setIfInBounds i true) = wpAnyIn F n P md ops Q fuel (listed.setIfInBounds i true) := fun i => by funext a w; exact wpAnyIn_round hro h
    show (_ ∧ ∀ i ∈ Region.ready md ops listed, wpOpIn (F.inRound l) n P ops Q i (wpAnyIn (F.inRound l) n P md ops Q fuel (listed.setIfInBounds i true)) a w) = (_ ∧ ∀ i ∈ Region.ready md ops listed, wpOpIn F n P ops Q i (wpAnyIn F n P md ops Q fuel (listed.setIfInBounds i true)) a w)
    simp only [ih, wpOpIn_round hro h]
theorem append_op {F : Fence} {n : Nat} {P : Program} {y : Nat → Option Bool} {X : Prop} {a : Act} {w : World} {K : Act → World → Prop} {Q : Exit → Act → World → Prop} (o : Oper)
    (hg : o.guard = none) (s x : Operand) (t : TypeId) (hop : o.op = Op.call { callee := Callee.builtin Builtin.append, args := #[s, x], argTypes := #[t, t] })
    (base : Nat) (e : TypeId) (i0 : TypeInfo) (z : Value) (size bytes : Nat) (h1 : P.underlying t = some (.slice e)) (h2 : P.info? e = some i0) (h3 : i0.zero = some z) (h4 : i0.size = size) (h5 : i0.bytes = bytes) (h6 : z.cells.size = size) (h7 : 0 < size)
    (v : Value) (k : Nat) (xs : List Value) (hs : a.eval s = v) (hown : w.ownsRow base e size v k xs) (ad : Addr) (m c : Nat) (news : List Value) (hx : a.eval x = .slice (some ad) m c) (hn : news.length = m * size)
    (hc : ∀ j u, news[j]? = some u → w.cell? (ad.add j) = some u) (h1c : ∀ u ∈ news, u.oneCell' = true) (b1 : k + m ≤ maxLen) (b2 : (k + m) * bytes ≤ 140737488355328) (b3 : base ≤ w.heap.size)
    (hK : ∀ v' w', w'.ownsRow base e size v' (k + m) (xs ++ news) → w.grownBy w' v.ownBlock → (v' = .slice none 0 0 ↔ v = .slice none 0 0 ∧ m = 0) → K (a.put o.dst v') w') :
    if Region.wanted o y = true then Oper.wpIn F n P o a w K Q else X := by
  have hw : ∀ y, Region.wanted o y = true := fun y => by unfold Region.wanted; rw [hg]
  rw [if_pos (hw y)]
  obtain ⟨v', w', hrun, r1, r2, r3⟩ := run_append_own (P := P) w base t o.type e i0 z size bytes h1 h2 h3 h4 h5 h6 h7 v k xs hown ad m c news hn hc h1c b1 b2 b3
  unfold Oper.wpIn
  refine ⟨?_, ?_⟩
  · simp [Oper.about, hop, resolve, Target.leads, Sem.run_pure]
  · rw [Oper.semAt_plain F _ _ (by rw [hop]; intro c hc'; cases hc')]
    simp [execOp, hop, resolve, invoke, builtin, hs, hx, hrun, Result.andThen]
    exact hK _ _ r1 r2 r3
set_option maxRecDepth 100000 in
set_option maxHeartbeats 4000000 in
theorem list_in (A : Option Addr) (N c : Nat) (xs : List Nat) (n r : Nat) (p : PL) (hl : xs.length = n) (hn : n < 4294967296) (hxr : ∀ y ∈ xs, y < 4294967296) (hr : r < 4294967296) (w : World) (hWd : WdIn w w.heap.size (.slice A N c) n (wsv xs) p) :
    CallsIn Fence.wide 3 Try.prog 10 #[.slice A N c, .int .u32 r] w fun e W' => ∃ v, e = .returned v ∧ W'.ownsRow w.heap.size 40 3 v (colP (genP xs r (if r < mpg n then 32 else 0))).length (mpv (colP (genP xs r (if r < mpg n then 32 else 0)))) ∧ Below w.heap.size w W' := by
  have h1 : 1 ≤ 3 := by omega
  obtain ⟨Y, hYd⟩ : ∃ Y, Y = genP xs r (if r < mpg n then 32 else 0) := ⟨_, rfl⟩
  rw [← hYd]
  obtain ⟨i0, hi, hz0, hz1, hz2⟩ := info_parts infoMp
  refine callsIn_of_wp_marks Try.func10 rfl trivial ?_ rfl
  simp only [Try.ntmps10, List.size_toArray, List.length_cons, List.length_nil, Nat.reduceAdd, Nat.reduceSub, Array.replicate_succ, Array.replicate_zero, List.push_toArray, List.append_toArray, List.nil_append, List.cons_append]
  gi_wp2_with (refine ⟨trivial, ?_⟩; gi_at_call 20; refine (table_in (3 - 1) A N c r _).mono ?_; rintro e w' ⟨rfl, rfl⟩)
  have bO := Boxed.new w 30 (.slice none 0 0)
  have bM := Boxed.new (w.alloc (.cells #[.slice none 0 0] 30)) 22 (.slice A N c)
  have bR := Boxed.new ((w.alloc (.cells #[.slice none 0 0] 30)).alloc (.cells #[.slice A N c] 22)) 24 (.int .u32 r)
  rw [World.size_alloc] at bM
  rw [World.size_alloc, World.size_alloc] at bR
  have hB0 : Below w.heap.size w (((w.alloc (.cells #[.slice none 0 0] 30)).alloc (.cells #[.slice A N c] 22)).alloc (.cells #[.int .u32 r] 24)) := (((Below.refl _ w).alloc (Nat.le_refl _) _).alloc (by simp) _).alloc (by simp; omega) _
  have hst := table_stops (3 - 1) (by omega) (w.heap.size + 1) (w.heap.size + 1 + 1) w.heap.size (.slice A N c) xs n r p hl hn hxr hr _ (by simp; omega) _ _ (bM.alloc (.cells #[.int .u32 r] 24)) bR (hWd.below hB0)
  rw [← hYd] at hst
  clear hYd
  have bM' := bM.alloc (.cells #[.int .u32 r] 24)
  refine wpIn_rangeFunc_ownG rfl h1 (gf := 31) (lb := #[.pointer (some ⟨w.heap.size + 1, 0, none⟩), .pointer (some ⟨w.heap.size + 1 + 1, 0, none⟩)]) rfl trivial (enters_of Try.func31 (by kernel_rfl) rfl)
    hst KP.trans (KP.put (by simp; omega)) (Below.refl _ _) (fun _ => rfl)
    (fun pre W => ((∃ v, Boxed W w.heap.size 30 v ∧ W.ownsRow w.heap.size 40 3 v (colP pre).length (mpv (colP pre)) ∧ True) ∧ Boxed W (w.heap.size + 1) 22 (.slice A N c) ∧ Boxed W (w.heap.size + 1 + 1) 24 (.int .u32 r)) ∧ Below w.heap.size w W)
    (fun _ _ _ => False)
    (OwnFrom.and (OwnFrom.and (Own.from (holdsRow_own w.heap.size w.heap.size 30 40 3 (fun pre => (colP pre).length) (fun pre => mpv (colP pre)) (fun pre v => True)) _) (OwnFrom.and (boxed_own _ _ _ _) (boxed_own _ _ _ _))) (ownFrom_below (Nat.le_refl _) (by simp; omega)))
    (fun _ _ _ _ _ hs _ _ => hs)
    ⟨⟨⟨_, (bO.alloc _).alloc _, World.ownsRow_nil _ _ _ _, trivial⟩, bM', bR⟩, hB0⟩
    (fun x => { tmps := #[.slice A N c, .int .u32 r, undef, undef, .slice none 0 0, .pointer (some ⟨w.heap.size, 0, none⟩), .int .u32 (x.1 % 4294967296 : Nat), .int .u32 (x.2 % 4294967296 : Nat), .slice A N c, .int .u32 r, .func (.func 31) #[] #[.pointer (some ⟨w.heap.size + 1, 0, none⟩), .pointer (some ⟨w.heap.size + 1 + 1, 0, none⟩)], .int .u32 (x.1 % 4294967296 : Nat), .int .u32 (x.2 % 4294967296 : Nat), undef, undef, undef, undef, undef, undef, undef, undef, undef, undef, undef, undef, undef], defers := [] }) ?assign ?body ?done ?stop
  case assign =>
    intro l x W K hK
    unfold enP
    gi_wp2
    exact hK
  case body =>
    rintro l pre x W ⟨⟨⟨v, hv, hrow, _⟩, hM, hR⟩, hB⟩ hlt
    have hc := hv.cell
    have hpl : (colP pre).length ≤ pre.length := colP_len pre
    obtain ⟨pg, pt⟩ := x
    dsimp only
    have hpt : pt % 4294967296 < 4294967296 := Nat.mod_lt _ (by omega)
    generalize hpt' : pt % 4294967296 = PT at *
    generalize hpg' : pg % 4294967296 = PG at *
    have hmx : Try.prog.follows .mixedOrders = true := by kernel_rfl
    have b1 : bits .and .u32 (PT : Int) 1 = ((PT &&& 1 : Nat) : Int) := and_w _ 1 hpt (by omega)
    gi_wp2
    · have hrowD : W.drew.ownsRow w.heap.size 40 3 v (colP pre).length (mpv (colP pre)) := hrow
      have hvD : Boxed W.drew w.heap.size 30 v := hv
      have hMD : Boxed W.drew (w.heap.size + 1) 22 (.slice A N c) := hM
      have hRD : Boxed W.drew (w.heap.size + 1 + 1) 24 (.int .u32 r) := hR
      have hp1 : PT &&& 1 ≠ 0 := by
        have h2 : ((PT : Int) % 2 != 0) = true := by assumption
        rw [Nat.and_one_is_mod]
        simp at h2
        omega
      have hyes : colP (pre ++ [(pg, pt)]) = colP pre ++ [⟨PG, frW PT, PT &&& 31⟩] := by
        rw [colP_yes pre (by show pt % 4294967296 &&& 1 ≠ 0; rw [hpt']; exact hp1)]
        show _ ++ [(⟨pg % 4294967296, frW (pt % 4294967296), pt % 4294967296 &&& 31⟩ : Mp)] = _
        rw [hpt', hpg']
      have hcA : (W.alloc (.cells #[.int .u32 (PG : Nat), .int .u32 (frW PT : Nat), .int .u32 (bits .and .u32 (PT : Int) 31)] 40)).drew.cell? ⟨w.heap.size, 0, none⟩ = some v := (hv.alloc _).cell
      have hBD : Below w.heap.size w W.drew := hB.drew
      refine wpIn_region_any hmx ?_
      rw [wpAnyIn_round rfl (by kernel_rfl)]
      change wpAnyIn _ _ _ _ _ _ _ _ _ (World.drew _)
      refine wpAnyIn_take (i := 1) (v := ?v1_1) rfl rfl (by kernel_rfl) (by kernel_rfl) (by kernel_rfl) (fun _ _ _ h => h) ⟨Or.inl ⟨by rfl, ?hy1_1⟩, fun _ => rfl⟩ ?rest1_1
      case hy1_1 => (intro w; go_simp; try with_reducible rfl)
      refine wpAnyIn_take (i := 2) (v := ?v2_2) rfl rfl (by kernel_rfl) (by kernel_rfl) (by kernel_rfl) (fun _ _ _ h => h) ⟨Or.inl ⟨by rfl, ?hy2_2⟩, fun _ => rfl⟩ ?rest2_2
      case hy2_2 => (intro w; go_simp; try with_reducible rfl)
      refine wpAnyIn_take (i := 4) (v := ?v4_3) rfl rfl (by kernel_rfl) (by kernel_rfl) (by kernel_rfl) (fun _ _ _ h => h) ⟨Or.inl ⟨by rfl, ?hy4_3⟩, fun _ => rfl⟩ ?rest4_3
      case hy4_3 => (intro w; go_simp; try with_reducible rfl)
      refine wpAnyIn_take (i := 5) (v := ?v5_4) rfl rfl (by kernel_rfl) (by kernel_rfl) (by kernel_rfl) (fun _ _ _ h => h) ⟨Or.inl ⟨by rfl, ?hy5_4⟩, fun _ => rfl⟩ ?rest5_4
      case hy5_4 => (intro w; go_simp; try with_reducible rfl)
      refine wpAnyIn_ready (rs := [0, 3]) (by kernel_rfl) (by simp) ?_
      refine AllReadyIn.cons rfl (fun K hK => ?_) ?_
      · go_simp
        (refine hK _ _ ?_; clear hK K)
        refine wpAnyIn_ready (rs := [3]) (by kernel_rfl) (by simp) ?_
        refine AllReadyIn.cons rfl (fun K hK => ?_) ?_
        · go_simp
          gi_wp2_with (refine ⟨trivial, ?_⟩; gi_at_call 21; refine (callsIn_wide.2 (frame_w PT _ hpt)).mono ?_; rintro e w' ⟨rfl, rfl⟩)
          refine wpAnyIn_take (i := 6) (v := ?v6_5) rfl rfl (by kernel_rfl) (by kernel_rfl) (by kernel_rfl) (fun _ _ _ h => h) ⟨Or.inl ⟨by rfl, ?hy6_5⟩, fun _ => rfl⟩ ?rest6_5
          case hy6_5 => (intro w; go_simp; try with_reducible rfl)
          refine wpAnyIn_ready (rs := [7]) (by kernel_rfl) (by simp) ?_
          refine AllReadyIn.cons rfl (fun K hK => ?_) ?_
          · go_simp
            (refine hK _ _ ?_; clear hK K)
            refine wpAnyIn_ready (rs := [8]) (by kernel_rfl) (by simp) ?_
            refine AllReadyIn.cons rfl (fun K hK => ?_) ?_
            · refine append_op _ rfl _ _ 30 rfl w.heap.size 40 i0 (.agg #[.int .u32 0, .int .u32 0, .int .u32 0]) 3 12 Try.underlying30 hi hz0 hz1 hz2 rfl (by decide) v (colP pre).length (mpv (colP pre)) rfl (hrowD.alloc _) ⟨W.heap.size, 0, none⟩ 1 1 [.int .u32 (PG : Nat), .int .u32 (frW PT : Nat), .int .u32 (bits .and .u32 (PT : Int) 31)] rfl rfl (cell_three_new W.drew _ _ _ _) (fun x hx => by simp at hx; rcases hx with rfl | rfl | rfl <;> rfl) (by unfold maxLen; omega) (by omega) (by have := hB.size; simp; omega) ?_
              intro v' w1 hown' hgrow _
              obtain ⟨g', cap', rfl⟩ := ownsRow_succ hown'
              obtain ⟨hv1, hv2, hr2, hk2, hb2⟩ := hvD.appended (by decide) hrowD hBD.size (Nat.le_refl _) hown' hgrow
              have hc1 := hv1.cell
              have hf1 := hv1.frozen
              (refine hK _ _ ?_; clear hK K)
              refine wpAnyIn_ready (rs := [9]) (by kernel_rfl) (by simp) ?_
              refine AllReadyIn.cons rfl (fun K hK => ?_) ?_
              · go_simp
                (refine hK _ _ ?_; clear hK K)
                refine wpAnyIn_done (by kernel_rfl) ?_ _
                gi_wp2
                have hMM := ((hMD.alloc _).kept hgrow (hMD.not_row (by decide) hrowD)).kept (grownBy_setCell' w1 w.heap.size (.slice (some ⟨g', 0, none⟩) ((colP pre).length + 1) cap')) (fun e => by injection e with e; omega)
                have hRR := ((hRD.alloc _).kept hgrow (hRD.not_row (by decide) hrowD)).kept (grownBy_setCell' w1 w.heap.size (.slice (some ⟨g', 0, none⟩) ((colP pre).length + 1) cap')) (fun e => by injection e with e; omega)
                have b31 : bits .and .u32 (PT : Int) 31 = ((PT &&& 31 : Nat) : Int) := and_w _ 31 hpt (by omega)
                exact ⟨((KeepsOthers.drew W).trans hk2).from _, ⟨((Below.refl _ W).drew).trans hb2, KB.of_boxed hM hMM, KB.of_boxed hR hRR⟩, ⟨⟨_, hv2, by rw [hyes, mpv_app, List.length_append]; rw [b31] at hr2; exact hr2, trivial⟩, hMM, hRR⟩, hBD.trans hb2⟩
              exact AllReadyIn.nil
            exact AllReadyIn.nil
          exact AllReadyIn.nil
        exact AllReadyIn.nil
      refine AllReadyIn.cons rfl (fun K hK => ?_) ?_
      · go_simp
        gi_wp2_with (refine ⟨trivial, ?_⟩; gi_at_call 21; refine (callsIn_wide.2 (frame_w PT _ hpt)).mono ?_; rintro e w' ⟨rfl, rfl⟩)
        refine wpAnyIn_take (i := 6) (v := ?v6_6) rfl rfl (by kernel_rfl) (by kernel_rfl) (by kernel_rfl) (fun _ _ _ h => h) ⟨Or.inl ⟨by rfl, ?hy6_6⟩, fun _ => rfl⟩ ?rest6_6
        case hy6_6 => (intro w; go_simp; try with_reducible rfl)
        refine wpAnyIn_ready (rs := [0, 7]) (by kernel_rfl) (by simp) ?_
        refine AllReadyIn.cons rfl (fun K hK => ?_) ?_
        · go_simp
          (refine hK _ _ ?_; clear hK K)
          refine wpAnyIn_ready (rs := [7]) (by kernel_rfl) (by simp) ?_
          refine AllReadyIn.cons rfl (fun K hK => ?_) ?_
          · go_simp
            (refine hK _ _ ?_; clear hK K)
            refine wpAnyIn_ready (rs := [8]) (by kernel_rfl) (by simp) ?_
            refine AllReadyIn.cons rfl (fun K hK => ?_) ?_
            · refine append_op _ rfl _ _ 30 rfl w.heap.size 40 i0 (.agg #[.int .u32 0, .int .u32 0, .int .u32 0]) 3 12 Try.underlying30 hi hz0 hz1 hz2 rfl (by decide) v (colP pre).length (mpv (colP pre)) rfl (hrowD.alloc _) ⟨W.heap.size, 0, none⟩ 1 1 [.int .u32 (PG : Nat), .int .u32 (frW PT : Nat), .int .u32 (bits .and .u32 (PT : Int) 31)] rfl rfl (cell_three_new W.drew _ _ _ _) (fun x hx => by simp at hx; rcases hx with rfl | rfl | rfl <;> rfl) (by unfold maxLen; omega) (by omega) (by have := hB.size; simp; omega) ?_
              intro v' w1 hown' hgrow _
              obtain ⟨g', cap', rfl⟩ := ownsRow_succ hown'
              obtain ⟨hv1, hv2, hr2, hk2, hb2⟩ := hvD.appended (by decide) hrowD hBD.size (Nat.le_refl _) hown' hgrow
              have hc1 := hv1.cell
              have hf1 := hv1.frozen
              (refine hK _ _ ?_; clear hK K)
              refine wpAnyIn_ready (rs := [9]) (by kernel_rfl) (by simp) ?_
              refine AllReadyIn.cons rfl (fun K hK => ?_) ?_
              · go_simp
                (refine hK _ _ ?_; clear hK K)
                refine wpAnyIn_done (by kernel_rfl) ?_ _
                gi_wp2
                have hMM := ((hMD.alloc _).kept hgrow (hMD.not_row (by decide) hrowD)).kept (grownBy_setCell' w1 w.heap.size (.slice (some ⟨g', 0, none⟩) ((colP pre).length + 1) cap')) (fun e => by injection e with e; omega)
                have hRR := ((hRD.alloc _).kept hgrow (hRD.not_row (by decide) hrowD)).kept (grownBy_setCell' w1 w.heap.size (.slice (some ⟨g', 0, none⟩) ((colP pre).length + 1) cap')) (fun e => by injection e with e; omega)
                have b31 : bits .and .u32 (PT : Int) 31 = ((PT &&& 31 : Nat) : Int) := and_w _ 31 hpt (by omega)
                exact ⟨((KeepsOthers.drew W).trans hk2).from _, ⟨((Below.refl _ W).drew).trans hb2, KB.of_boxed hM hMM, KB.of_boxed hR hRR⟩, ⟨⟨_, hv2, by rw [hyes, mpv_app, List.length_append]; rw [b31] at hr2; exact hr2, trivial⟩, hMM, hRR⟩, hBD.trans hb2⟩
              exact AllReadyIn.nil
            exact AllReadyIn.nil
          exact AllReadyIn.nil
        refine AllReadyIn.cons rfl (fun K hK => ?_) ?_
        · go_simp
          (refine hK _ _ ?_; clear hK K)
          refine wpAnyIn_ready (rs := [0]) (by kernel_rfl) (by simp) ?_
          refine AllReadyIn.cons rfl (fun K hK => ?_) ?_
          · go_simp
            (refine hK _ _ ?_; clear hK K)
            refine wpAnyIn_ready (rs := [8]) (by kernel_rfl) (by simp) ?_
            refine AllReadyIn.cons rfl (fun K hK => ?_) ?_
            · refine append_op _ rfl _ _ 30 rfl w.heap.size 40 i0 (.agg #[.int .u32 0, .int .u32 0, .int .u32 0]) 3 12 Try.underlying30 hi hz0 hz1 hz2 rfl (by decide) v (colP pre).length (mpv (colP pre)) rfl (hrowD.alloc _) ⟨W.heap.size, 0, none⟩ 1 1 [.int .u32 (PG : Nat), .int .u32 (frW PT : Nat), .int .u32 (bits .and .u32 (PT : Int) 31)] rfl rfl (cell_three_new W.drew _ _ _ _) (fun x hx => by simp at hx; rcases hx with rfl | rfl | rfl <;> rfl) (by unfold maxLen; omega) (by omega) (by have := hB.size; simp; omega) ?_
              intro v' w1 hown' hgrow _
              obtain ⟨g', cap', rfl⟩ := ownsRow_succ hown'
              obtain ⟨hv1, hv2, hr2, hk2, hb2⟩ := hvD.appended (by decide) hrowD hBD.size (Nat.le_refl _) hown' hgrow
              have hc1 := hv1.cell
              have hf1 := hv1.frozen
              (refine hK _ _ ?_; clear hK K)
              refine wpAnyIn_ready (rs := [9]) (by kernel_rfl) (by simp) ?_
              refine AllReadyIn.cons rfl (fun K hK => ?_) ?_
              · go_simp
                (refine hK _ _ ?_; clear hK K)
                refine wpAnyIn_done (by kernel_rfl) ?_ _
                gi_wp2
                have hMM := ((hMD.alloc _).kept hgrow (hMD.not_row (by decide) hrowD)).kept (grownBy_setCell' w1 w.heap.size (.slice (some ⟨g', 0, none⟩) ((colP pre).length + 1) cap')) (fun e => by injection e with e; omega)
                have hRR := ((hRD.alloc _).kept hgrow (hRD.not_row (by decide) hrowD)).kept (grownBy_setCell' w1 w.heap.size (.slice (some ⟨g', 0, none⟩) ((colP pre).length + 1) cap')) (fun e => by injection e with e; omega)
                have b31 : bits .and .u32 (PT : Int) 31 = ((PT &&& 31 : Nat) : Int) := and_w _ 31 hpt (by omega)
                exact ⟨((KeepsOthers.drew W).trans hk2).from _, ⟨((Below.refl _ W).drew).trans hb2, KB.of_boxed hM hMM, KB.of_boxed hR hRR⟩, ⟨⟨_, hv2, by rw [hyes, mpv_app, List.length_append]; rw [b31] at hr2; exact hr2, trivial⟩, hMM, hRR⟩, hBD.trans hb2⟩
              exact AllReadyIn.nil
            exact AllReadyIn.nil
          exact AllReadyIn.nil
        exact AllReadyIn.nil
      exact AllReadyIn.nil
    · have hp1 : PT &&& 1 = 0 := by
        have h2 : ((PT : Int) % 2 != 0) = false := by assumption
        rw [Nat.and_one_is_mod]
        simp at h2
        omega
      have hno : colP (pre ++ [(pg, pt)]) = colP pre := colP_no pre (by show pt % 4294967296 &&& 1 = 0; rw [hpt']; exact hp1)
      exact ⟨KeepsFrom.refl _ _, ⟨Below.refl _ _, fun c t fz e => e, fun c t fz e => e⟩, ⟨⟨v, hv, by rw [hno]; exact hrow, trivial⟩, hM, hR⟩, hB⟩
  case done =>
    rintro D ys W hD rfl ⟨⟨⟨v, hv, hrow, _⟩, _, _⟩, hB⟩ hK
    have hc := hv.cell
    gi_wp2
    refine ⟨by simp, .inl ⟨_, _, rfl, run_takeDeferred hK, ?_⟩⟩
    exact ⟨_, results_tmp rfl _ _ _, v, rfl, ownsRow_putObj hrow _ hK rfl, hB.trans (belowK_b (w := w) (Nat.le_refl _) W D _ _ (by simp at hD; omega) hK rfl rfl)⟩
  case stop =>
    rintro D c pre W _ _ h _
    exact h.elim
end Go.Proofs.Ytnmomjaockmdpaa
