/- CacheTells: few; the law. -/
import Derived.Test.YtcaddlighhiepaaCcR
namespace Go.Proofs.Ytcaddlighhiepaa
open Go Go.RowKit
set_option linter.unusedSimpArgs false
set_option linter.unusedVariables false

def fewst (N i : Nat) (CC : List SV) : St :=
  ⟨[(0, .a (.s (.sl 0 0 N))), (3, .a (.s (.int .i64 i)))], [(0, some ⟨false, 3, CC⟩)], [0]⟩
set_option maxHeartbeats 2000000 in
set_option maxRecDepth 100000 in
theorem few_fn (c : List Bk) (N : Nat) (hN : c.length = N) (hN2 : N ≤ 9223372036854775807) (B : Bool) (hB : B = true ↔ N ≤ 24 ∧ ∀ b ∈ c, b.l.length ≤ 20) :
    Fn Try.prog 6 [.s (.sl 0 0 N)] [⟨false, 3, bks c⟩] (· = ⟨.a (.s (.bool B)), [], []⟩) := by
  have s1 := bks_scal c
  have hsg := bks_seg c
  generalize hCV : bks c = CV at *
  refine fn_of_vc mixed tys_ok _ _ Try.func6 (by kernel_rfl) rfl Try.ntmps6 (by rw [Try.results6]) rfl ?_; dsimp only [argTm, argHl, Nat.zero_add, Nat.reduceAdd, List.length_nil, List.length_cons]
  (repeat' ((conv => whnf); first | ((first | apply Br.mk | apply Gd.mk) <;> (intro hb; first | exact aK2 hb | (simp only [d1, d2, beq_iff_eq, bne_iff_ne, d3, d4, d5, d6, Int.not_lt, Int.not_le, ge_iff_le, gt_iff_lt, ne_eq, d7] at hb; first | (exfalso; omega) | skip) | skip))  |  (refine Eqs.mk _ (eqt_ok _ _ rfl _ _ _ rfl) ?_) | ((with_reducible apply Vl.mk (α := Nat)); · exact aNt) | (with_reducible apply sd_draw; · kernel_rfl) | (apply Sd.mk; · exact aSd) | ((with_reducible apply Vl.mk (α := Int)); · exact aAr) | ((with_reducible first | apply Vl.mk (α := Bool) | apply Vl.mk (α := Nat) | apply Vl.mk (α := ByteArray) | apply Ge.mk (α := Row) | apply Ge.mk (α := SV) | apply Ge.mk (α := AV)); · exact rfl) | (refine And.intro rfl ?_) | ((with_reducible first | apply Vl.mk (α := List SV) | apply Vl.mk (α := Ef) | apply Vl.mk (α := TV) | apply Ge.mk (α := List SV) | apply Sg.mk | apply Sk.mk); · exact aCl) | ((first | apply Br.mk | apply Gd.mk) <;> (intro hb; first | exact aKl hb | (simp only [d1, d2, beq_iff_eq, bne_iff_ne, d3, d4, d5, d6, Int.not_lt, Int.not_le, ge_iff_le, gt_iff_lt, ne_eq, d7] at hb; first | (exfalso; omega) | skip) | skip)) | (apply Sd.mk; · exact aS2))); (all_goals (try (conv => whnf)))
  refine Lp.inv (fun mm σ => ∃ j : Nat, mm + j = 30 ∧ j ≤ N ∧ (∀ k b, k < j → c[k]? = some b → b.l.length ≤ 20) ∧ σ = fewst N j CV) ?_ ?_
  · refine ⟨30, fewst N 0 CV, ?_, 0, by omega, by omega, fun k b hk => by omega, rfl⟩
    (apply wk_of (m := [(0, some 0)]); (focus ((repeat' (first | exact tml_nil | apply tml_cons)); all_goals (exact aFi))); (focus ((show HlS _ _ [] _); (exact aFi))); (focus (first | exact rfl | rfl | kernel_rfl)))
  rintro mm σ ⟨j, hmj, hjN, hpre, rfl⟩
  unfold fewst
  have q2 : IntKind.i64.wrap ((j : Int) + 1) = ((j + 1 : Nat) : Int) := by rw [wi64 (by omega) (by omega)]; omega
  by_cases hj : j < N ∧ j < 30
  · obtain ⟨e, he⟩ : ∃ e, c[j]? = some e := ⟨c[j]'(by omega), List.getElem?_eq_getElem (by omega)⟩
    have seg := hsg j e he
    have ga := seg.2 2 _ rfl
    by_cases h20 : e.l.length ≤ 20
    · have hpre2 : ∀ k b, k < j + 1 → c[k]? = some b → b.l.length ≤ 20 := fun k b hk hb => by
        by_cases hkj : k = j
        · subst hkj; rw [he] at hb; obtain rfl := Option.some.inj hb; exact h20
        · exact hpre k b (by omega) hb
      obtain ⟨A, L, l⟩ := e
      dsimp only [Bk.C] at seg ga h20
      clear hsg he hpre hB
      generalize l.length = K at *
      generalize mzs l = M at *
      (repeat' ((conv => whnf); first | ((with_reducible apply Ge.mk (α := SV)); · exact ga)  |  ((with_reducible apply Vl.mk (α := Int)); · with_reducible first | exact q2)  |  ((first | apply Br.mk | apply Gd.mk) <;> (intro hb; first | exact aK2 hb | (simp only [d1, d2, beq_iff_eq, bne_iff_ne, d3, d4, d5, d6, Int.not_lt, Int.not_le, ge_iff_le, gt_iff_lt, ne_eq, d7] at hb; first | (exfalso; omega) | skip) | skip))  |  (refine Eqs.mk _ (eqt_ok _ _ rfl _ _ _ rfl) ?_) | ((with_reducible apply Vl.mk (α := Nat)); · exact aNt) | (with_reducible apply sd_draw; · kernel_rfl) | (apply Sd.mk; · exact aSd) | ((with_reducible apply Vl.mk (α := Int)); · exact aAr) | ((with_reducible first | apply Vl.mk (α := Bool) | apply Vl.mk (α := Nat) | apply Vl.mk (α := ByteArray) | apply Ge.mk (α := Row) | apply Ge.mk (α := SV) | apply Ge.mk (α := AV)); · exact rfl) | (refine And.intro rfl ?_) | ((with_reducible first | apply Vl.mk (α := List SV) | apply Vl.mk (α := Ef) | apply Vl.mk (α := TV) | apply Ge.mk (α := List SV) | apply Sg.mk | apply Sk.mk); · exact aCl) | ((first | apply Br.mk | apply Gd.mk) <;> (intro hb; first | exact aKl hb | (simp only [d1, d2, beq_iff_eq, bne_iff_ne, d3, d4, d5, d6, Int.not_lt, Int.not_le, ge_iff_le, gt_iff_lt, ne_eq, d7] at hb; first | (exfalso; omega) | skip) | skip)) | (apply Sd.mk; · exact aS2))); (all_goals (try (conv => whnf)))
      all_goals first
        | (exfalso; simp at hb; done)
        | (exfalso; omega)
        | (refine ⟨mm - 1, fewst N (j + 1) CV, by omega, ?_, j + 1, by omega, by omega, hpre2, rfl⟩
           (apply wk_of (m := [(0, some 0)]); (focus ((repeat' (first | exact tml_nil | apply tml_cons)); all_goals (exact aFi))); (focus ((show HlS _ _ [] _); (exact aFi))); (focus (first | exact rfl | rfl | kernel_rfl))))
        | trace_state
    · obtain rfl : B = false := bfalse hB (fun h => h20 (h.2 e (List.mem_of_getElem? he)))
      obtain ⟨A, L, l⟩ := e
      dsimp only [Bk.C] at seg ga h20
      clear hsg he hpre hB
      generalize l.length = K at *
      generalize mzs l = M at *
      (repeat' ((conv => whnf); first | ((with_reducible apply Ge.mk (α := SV)); · exact ga)  |  ((with_reducible apply Vl.mk (α := Int)); · with_reducible first | exact q2)  |  ((first | apply Br.mk | apply Gd.mk) <;> (intro hb; first | exact aK2 hb | (simp only [d1, d2, beq_iff_eq, bne_iff_ne, d3, d4, d5, d6, Int.not_lt, Int.not_le, ge_iff_le, gt_iff_lt, ne_eq, d7] at hb; first | (exfalso; omega) | skip) | skip))  |  (refine Eqs.mk _ (eqt_ok _ _ rfl _ _ _ rfl) ?_) | ((with_reducible apply Vl.mk (α := Nat)); · exact aNt) | (with_reducible apply sd_draw; · kernel_rfl) | (apply Sd.mk; · exact aSd) | ((with_reducible apply Vl.mk (α := Int)); · exact aAr) | ((with_reducible first | apply Vl.mk (α := Bool) | apply Vl.mk (α := Nat) | apply Vl.mk (α := ByteArray) | apply Ge.mk (α := Row) | apply Ge.mk (α := SV) | apply Ge.mk (α := AV)); · exact rfl) | (refine And.intro rfl ?_) | ((with_reducible first | apply Vl.mk (α := List SV) | apply Vl.mk (α := Ef) | apply Vl.mk (α := TV) | apply Ge.mk (α := List SV) | apply Sg.mk | apply Sk.mk); · exact aCl) | ((first | apply Br.mk | apply Gd.mk) <;> (intro hb; first | exact aKl hb | (simp only [d1, d2, beq_iff_eq, bne_iff_ne, d3, d4, d5, d6, Int.not_lt, Int.not_le, ge_iff_le, gt_iff_lt, ne_eq, d7] at hb; first | (exfalso; omega) | skip) | skip)) | (apply Sd.mk; · exact aS2))); (all_goals (try (conv => whnf)))
      all_goals first
        | (apply Fin.mk (m := [(0, some 0)]); (focus exact rfl); (all_goals ((try (show HlS _ _ [] _)); first | (exact aFi) | exact rfl)))
        | (exfalso; simp at hb; done)
        | (exfalso; omega)
        | trace_state
  · have hBd : decide ((N : Int) ≤ 24) = B := by
      cases hb : B with
      | true => exact decide_eq_true (by have := (hB.1 hb).1; omega)
      | false =>
        refine decide_eq_false (fun h => ?_)
        rw [hb] at hB
        have : false = true := hB.2 ⟨by omega, fun b hbm => by
          obtain ⟨k, hk⟩ := List.getElem?_of_mem hbm
          exact hpre k b (by have := (List.getElem?_eq_some_iff.1 hk).1; omega) hk⟩
        cases this
    clear hsg hpre hB
    by_cases hjN2 : j < N
    · (repeat' ((conv => whnf); first | ((first | apply Br.mk | apply Gd.mk) <;> (intro hb; first | exact aK2 hb | (simp only [d1, d2, beq_iff_eq, bne_iff_ne, d3, d4, d5, d6, Int.not_lt, Int.not_le, ge_iff_le, gt_iff_lt, ne_eq, d7] at hb; first | (exfalso; omega) | skip) | skip))  |  (refine Eqs.mk _ (eqt_ok _ _ rfl _ _ _ rfl) ?_)  |  ((with_reducible apply Vl.mk (α := Bool)); · exact hBd) | ((with_reducible apply Vl.mk (α := Nat)); · exact aNt) | (with_reducible apply sd_draw; · kernel_rfl) | (apply Sd.mk; · exact aSd) | ((with_reducible apply Vl.mk (α := Int)); · exact aAr) | ((with_reducible first | apply Vl.mk (α := Bool) | apply Vl.mk (α := Nat) | apply Vl.mk (α := ByteArray) | apply Ge.mk (α := Row) | apply Ge.mk (α := SV) | apply Ge.mk (α := AV)); · exact rfl) | (refine And.intro rfl ?_) | ((with_reducible first | apply Vl.mk (α := List SV) | apply Vl.mk (α := Ef) | apply Vl.mk (α := TV) | apply Ge.mk (α := List SV) | apply Sg.mk | apply Sk.mk); · exact aCl) | ((first | apply Br.mk | apply Gd.mk) <;> (intro hb; first | exact aKl hb | (simp only [d1, d2, beq_iff_eq, bne_iff_ne, d3, d4, d5, d6, Int.not_lt, Int.not_le, ge_iff_le, gt_iff_lt, ne_eq, d7] at hb; first | (exfalso; omega) | skip) | skip)) | (apply Sd.mk; · exact aS2))); (all_goals (try (conv => whnf)))
      all_goals first | (apply Fin.mk (m := [(0, some 0)]); (focus exact rfl); (all_goals ((try (show HlS _ _ [] _)); first | (exact aFi) | exact rfl))) | (exfalso; omega) | trace_state
    · (repeat' ((conv => whnf); first | ((first | apply Br.mk | apply Gd.mk) <;> (intro hb; first | exact aK2 hb | (simp only [d1, d2, beq_iff_eq, bne_iff_ne, d3, d4, d5, d6, Int.not_lt, Int.not_le, ge_iff_le, gt_iff_lt, ne_eq, d7] at hb; first | (exfalso; omega) | skip) | skip))  |  (refine Eqs.mk _ (eqt_ok _ _ rfl _ _ _ rfl) ?_)  |  ((with_reducible apply Vl.mk (α := Bool)); · exact hBd) | ((with_reducible apply Vl.mk (α := Nat)); · exact aNt) | (with_reducible apply sd_draw; · kernel_rfl) | (apply Sd.mk; · exact aSd) | ((with_reducible apply Vl.mk (α := Int)); · exact aAr) | ((with_reducible first | apply Vl.mk (α := Bool) | apply Vl.mk (α := Nat) | apply Vl.mk (α := ByteArray) | apply Ge.mk (α := Row) | apply Ge.mk (α := SV) | apply Ge.mk (α := AV)); · exact rfl) | (refine And.intro rfl ?_) | ((with_reducible first | apply Vl.mk (α := List SV) | apply Vl.mk (α := Ef) | apply Vl.mk (α := TV) | apply Ge.mk (α := List SV) | apply Sg.mk | apply Sk.mk); · exact aCl) | ((first | apply Br.mk | apply Gd.mk) <;> (intro hb; first | exact aKl hb | (simp only [d1, d2, beq_iff_eq, bne_iff_ne, d3, d4, d5, d6, Int.not_lt, Int.not_le, ge_iff_le, gt_iff_lt, ne_eq, d7] at hb; first | (exfalso; omega) | skip) | skip)) | (apply Sd.mk; · exact aS2))); (all_goals (try (conv => whnf)))
      all_goals first | (apply Fin.mk (m := [(0, some 0)]); (focus exact rfl); (all_goals ((try (show HlS _ _ [] _)); first | (exact aFi) | exact rfl))) | (exfalso; omega) | trace_state
theorem insL_le (c : List Bk) (b : Bk) (h : c.length ≤ 1000000) : (insL c b).length ≤ 1000000 := by
  unfold insL
  split
  · rw [List.length_cons, List.length_take]; omega
  · exact h
theorem tells_ct (X : List Nat) (hxl : X.length = 128) (hxr : ∀ y ∈ X, y < 4294967296) (c : List Bk) (N : Nat) (hN : c.length = N) (hN2 : N ≤ 1000000) (hok : ∀ e ∈ c, e.ok) (x : Nat) (b : Bk) (hb : b.ok) (fr : Int) :
    ∃ (xb : Bk) (DV IV WV : List SV) (ok B : Bool) (K R : Nat), allScal DV = true ∧ allScal IV = true ∧ allScal WV = true ∧
      Fn Try.prog 12 [.s (.sl 0 0 N), .s (.int .u32 x)] [⟨false, 3, bks c⟩] (· = ⟨.tup [.agg xb.C, .s (.sl 1 0 N), .s (.bool ok)], [], [⟨true, 3, DV⟩]⟩) ∧
      Fn Try.prog 13 [.s (.sl 0 0 N), .s (.int .u32 x)] [⟨false, 3, bks c⟩] (· = ⟨.tup [.agg xb.C, .s (.sl 1 0 N), .s (.bool ok)], [], [⟨true, 3, DV⟩]⟩) ∧
      Fn Try.prog 14 [.agg xb.C, .agg xb.C] [] (· = ⟨.a (.s (.bool true)), [], []⟩) ∧
      Fn Try.prog 15 [.s (.sl 0 0 N), .s (.sl 1 0 N)] [⟨false, 3, DV⟩, ⟨false, 3, DV⟩] (· = ⟨.a (.s (.bool true)), [], []⟩) ∧
      Fn Try.prog 16 [.s (.sl 0 0 N), .agg b.C] [⟨false, 3, bks c⟩] (· = ⟨.a (.s (.sl 1 0 K)), [], [⟨true, 3, IV⟩]⟩) ∧
      Fn Try.prog 17 [.s (.sl 0 0 N), .agg b.C] [⟨false, 3, bks c⟩] (· = ⟨.a (.s (.sl 1 0 K)), [], [⟨true, 3, IV⟩]⟩) ∧
      Fn Try.prog 15 [.s (.sl 0 0 K), .s (.sl 1 0 K)] [⟨false, 3, IV⟩, ⟨false, 3, IV⟩] (· = ⟨.a (.s (.bool true)), [], []⟩) ∧
      Fn Try.prog 18 [.s (.sl 0 0 N), .s (.int .i64 fr)] [⟨false, 3, bks c⟩] (· = ⟨.a (.s (.sl 1 0 R)), [], [⟨true, 3, WV⟩]⟩) ∧
      Fn Try.prog 19 [.s (.sl 0 0 N), .s (.int .i64 fr)] [⟨false, 3, bks c⟩] (· = ⟨.a (.s (.sl 1 0 R)), [], [⟨true, 3, WV⟩]⟩) ∧
      Fn Try.prog 15 [.s (.sl 0 0 R), .s (.sl 1 0 R)] [⟨false, 3, WV⟩, ⟨false, 3, WV⟩] (· = ⟨.a (.s (.bool true)), [], []⟩) ∧
      Fn Try.prog 20 [.s (.sl 0 0 N), .s (.sl 1 0 128)] [⟨false, 3, bks c⟩, ⟨false, 1, wsv X⟩] (· = ⟨.a (.s (.bool B)), [], []⟩) ∧
      Fn Try.prog 21 [.s (.sl 0 0 N), .s (.sl 1 0 128)] [⟨false, 3, bks c⟩, ⟨false, 1, wsv X⟩] (· = ⟨.a (.s (.bool B)), [], []⟩) := by
  obtain ⟨B, hB⟩ : ∃ B : Bool, B = true ↔ CohP X 128 c := by
    by_cases h : CohP X 128 c
    · exact ⟨true, by simp [h]⟩
    · exact ⟨false, by simp [h]⟩
  have c1 := coherent17_fn X 128 hxl (by decide) hxr c N hN hN2 hok B hB
  have c2 := rcoherent17_fn X 128 hxl (by decide) hxr c N hN hN2 hok B hB
  have i1 := insert_fn c N hN hN2 hok b hb _ rfl _ rfl
  have i2 := rinsert_fn c N hN hN2 b hb _ rfl _ rfl
  have i3 := sameblks_fn (insL c b) _ rfl (insL_le c b (by omega)) (insL_ok c b hok hb)
  have w1 := invalidate_fn c N hN hN2 hok fr _ rfl _ rfl
  have w2 := rinvalidate_fn c N hN hN2 hok fr _ rfl _ rfl
  have w3 := sameblks_fn (c.filter (fun b => decide (fk b ≠ fr))) _ rfl (Nat.le_trans (List.length_filter_le _ _) (by omega)) (fun e he => hok e (List.mem_filter.1 he).1)
  by_cases h : ∃ e ∈ c, e.A = x
  · obtain ⟨a, e, h1, h2, h3⟩ := idxU_found x c 0 h
    rw [Nat.zero_add] at h1
    have hfst := idxU_first x (c.map (·.A)) 0 a (by rw [h1, Nat.zero_add])
    have f1 := find_hit c N hN hN2 hok x a e h2 h1
    have f2 := rfind_hit c N hN hN2 x a e h2 h3 (fun k y hk hy hA => hfst k hk (by rw [List.getElem?_map, hy]; show some y.A = _; rw [hA]))
    have f3 := sameblkF_fn e e (hok e (List.mem_of_getElem? h2)) true ((bkEq_iff e e).2 rfl)
    have f4 := sameblks_fn (frontL c a e) N (by rw [frontL_len c a e h2]; exact hN) hN2 (fun y hy => hok y ((frontL_mem c a e h2 y).1 hy))
    exact ⟨e, _, _, _, true, B, _, _, bks_scal _, bks_scal _, bks_scal _, f1, f2, f3, f4, i1, i2, i3, w1, w2, w3, c1, c2⟩
  · have f1 := find_no c N hN hN2 hok x (idxU_none x c 0 h)
    have f2 := rfind_no c N hN hN2 x (fun k y hy hA => h ⟨y, List.mem_of_getElem? hy, hA⟩)
    have f3 := sameblkF_fn ⟨0, 0, []⟩ ⟨0, 0, []⟩ ⟨by decide, by decide, fun m hm => by cases hm⟩ true ((bkEq_iff _ _).2 rfl)
    have f4 := sameblks_fn c N hN hN2 hok
    exact ⟨⟨0, 0, []⟩, _, _, _, false, B, _, _, bks_scal _, bks_scal _, bks_scal _, f1, f2, f3, f4, i1, i2, i3, w1, w2, w3, c1, c2⟩
/-- The reference's Build, its operations frozen. -/
theorem rbuildF_fn (X : List Nat) (hxl : X.length = 128) (hxr : ∀ y ∈ X, y < 4294967296) (a : Nat) (ha : a < 4294967296) (s : Int) :
    ∃ b : Bk, b.ok ∧ Fn Try.prog 10 [.s (.sl 0 0 128), .s (.int .u32 a), .s (.int .i64 s)] [⟨false, 1, wsv X⟩] (· = ⟨.a (.agg b.C), [], []⟩) := by
  have rb := rbuildA_fn X 128 a s hxl (by decide) ha hxr _ rfl
  obtain ⟨h1, h2, h3⟩ := blL_facts X 128 a s hxr
  refine ⟨⟨blA 128 a s, (blL X 128 a s).length, (blL X 128 a s).map Mi.z⟩, ⟨blA_lt 128 a s ha, by simp; omega, fun m hm => ?_⟩, ?_⟩
  · obtain ⟨q, hq, rfl⟩ := List.mem_map.1 hm
    exact (h2 q hq).2.2.2
  · dsimp only [Bk.C]
    have hf := mzs_flat ((blL X 128 a s).map Mi.z)
    rw [show ((blL X 128 a s).map Mi.z).length = (blL X 128 a s).length by simp]
    rw [mzs_mcs] at hf ⊢
    exact freeze1 rb hf (wsv_scal X)
set_option maxHeartbeats 8000000 in
set_option maxRecDepth 100000 in
theorem tellsR_fn (c : List Bk) (N : Nat) (hN : c.length = N) (hN2 : N ≤ 9223372036854775807) (hA : ∀ e ∈ c, e.A < 4294967296 ∧ ∀ m ∈ e.l, m.k < 4294967296) (ls acs : List Int) (n p : Nat) (hn : ls.length = n) (hn2 : n ≤ 9223372036854775807) (hp : acs.length = p) (x : Nat) (b : Bk) (hb : b.A < 4294967296 ∧ ∀ m ∈ b.l, m.k < 4294967296) (hbl : b.l.length ≤ 9223372036854775807) (fr : Int) :
    Fn Try.prog 3 [.s (.sl 0 0 N), .s (.bool true), .s (.sl 1 0 n), .s (.sl 2 0 p), .s (.int .u32 x), .agg b.C, .s (.int .i64 fr)] [⟨false, 3, bks c⟩, ⟨false, 1, isv .i64 ls⟩, ⟨false, 1, isv .i64 acs⟩] (· = ⟨.a (.s (.bool true)), [], []⟩) := by
  have hs1 := isv_scal .i64 ls
  have hs2 := isv_scal .i64 acs
  have hs3 := bks_scal c
  obtain ⟨Bf, hBf⟩ : ∃ B : Bool, B = true ↔ N ≤ 24 ∧ ∀ b ∈ c, b.l.length ≤ 20 := by
    by_cases h : N ≤ 24 ∧ ∀ b ∈ c, b.l.length ≤ 20
    · exact ⟨true, by simp only [true_iff]; exact h⟩
    · exact ⟨false, by simp only [Bool.false_eq_true, false_iff]; exact h⟩
  have cfew := few_fn c N hN hN2 Bf hBf
  by_cases hg : p ≤ 30 ∧ Bf = true ∧ b.l.length ≤ 20
  case neg =>
    obtain ⟨A, L, l⟩ := b
    dsimp only [Bk.C] at *
    clear hBf hb hA hN
    generalize isv .i64 ls = LL at *
    generalize isv .i64 acs = AA at *
    generalize bks c = CV at *
    generalize l.length = K at *
    generalize mzs l = M at *
    by_cases h1 : p ≤ 30
    · cases Bf with
      | false =>
        refine fn_of_vc mixed tys_ok _ _ Try.func3 (by kernel_rfl) rfl Try.ntmps3 (by rw [Try.results3]) rfl ?_; dsimp only [argTm, argHl, Nat.zero_add, Nat.reduceAdd, List.length_nil, List.length_cons]
        (repeat' ((conv => whnf); first | ((first | apply Br.mk | apply Gd.mk) <;> (intro hb; first | exact aK2 hb | (simp only [d1, d2, beq_iff_eq, bne_iff_ne, d3, d4, d5, d6, Int.not_lt, Int.not_le, ge_iff_le, gt_iff_lt, ne_eq, d7] at hb; first | (exfalso; omega) | skip) | skip))  |  (refine Eqs.mk _ (eqt_ok _ _ rfl _ _ _ rfl) ?_)  |  (refine vcall_pure (awake17_fn) rfl ?_)  |  (refine vcall_det (cfew) [⟨_, 0⟩] [(_, _)] rfl ⟨rfl, trivial⟩ ⟨rfl, rowM_ro (by assumption), trivial⟩ ⟨rfl, up_ok rfl⟩ ?_) | ((with_reducible apply Vl.mk (α := Nat)); · exact aNt) | (with_reducible apply sd_draw; · kernel_rfl) | (apply Sd.mk; · exact aSd) | ((with_reducible apply Vl.mk (α := Int)); · exact aAr) | ((with_reducible first | apply Vl.mk (α := Bool) | apply Vl.mk (α := Nat) | apply Vl.mk (α := ByteArray) | apply Ge.mk (α := Row) | apply Ge.mk (α := SV) | apply Ge.mk (α := AV)); · exact rfl) | (refine And.intro rfl ?_) | ((with_reducible first | apply Vl.mk (α := List SV) | apply Vl.mk (α := Ef) | apply Vl.mk (α := TV) | apply Ge.mk (α := List SV) | apply Sg.mk | apply Sk.mk); · exact aCl) | ((first | apply Br.mk | apply Gd.mk) <;> (intro hb; first | exact aKl hb | (simp only [d1, d2, beq_iff_eq, bne_iff_ne, d3, d4, d5, d6, Int.not_lt, Int.not_le, ge_iff_le, gt_iff_lt, ne_eq, d7] at hb; first | (exfalso; omega) | skip) | skip)) | (apply Sd.mk; · exact aS2))); (all_goals (try (conv => whnf)))
        all_goals first | (exfalso; omega) | (exfalso; simp at hb; done) | (apply Fin.mk (m := [(0, some 0), (1, some 1), (2, some 2)]); (focus exact rfl); (all_goals ((try (show HlS _ _ [] _)); first | (exact aFi) | exact rfl))) | trace_state
      | true =>
        have h2 : ¬ K ≤ 20 := fun h => hg ⟨h1, rfl, h⟩
        refine fn_of_vc mixed tys_ok _ _ Try.func3 (by kernel_rfl) rfl Try.ntmps3 (by rw [Try.results3]) rfl ?_; dsimp only [argTm, argHl, Nat.zero_add, Nat.reduceAdd, List.length_nil, List.length_cons]
        (repeat' ((conv => whnf); first | ((first | apply Br.mk | apply Gd.mk) <;> (intro hb; first | exact aK2 hb | (simp only [d1, d2, beq_iff_eq, bne_iff_ne, d3, d4, d5, d6, Int.not_lt, Int.not_le, ge_iff_le, gt_iff_lt, ne_eq, d7] at hb; first | (exfalso; omega) | skip) | skip))  |  (refine Eqs.mk _ (eqt_ok _ _ rfl _ _ _ rfl) ?_)  |  (refine vcall_pure (awake17_fn) rfl ?_)  |  (refine vcall_det (cfew) [⟨_, 0⟩] [(_, _)] rfl ⟨rfl, trivial⟩ ⟨rfl, rowM_ro (by assumption), trivial⟩ ⟨rfl, up_ok rfl⟩ ?_) | ((with_reducible apply Vl.mk (α := Nat)); · exact aNt) | (with_reducible apply sd_draw; · kernel_rfl) | (apply Sd.mk; · exact aSd) | ((with_reducible apply Vl.mk (α := Int)); · exact aAr) | ((with_reducible first | apply Vl.mk (α := Bool) | apply Vl.mk (α := Nat) | apply Vl.mk (α := ByteArray) | apply Ge.mk (α := Row) | apply Ge.mk (α := SV) | apply Ge.mk (α := AV)); · exact rfl) | (refine And.intro rfl ?_) | ((with_reducible first | apply Vl.mk (α := List SV) | apply Vl.mk (α := Ef) | apply Vl.mk (α := TV) | apply Ge.mk (α := List SV) | apply Sg.mk | apply Sk.mk); · exact aCl) | ((first | apply Br.mk | apply Gd.mk) <;> (intro hb; first | exact aKl hb | (simp only [d1, d2, beq_iff_eq, bne_iff_ne, d3, d4, d5, d6, Int.not_lt, Int.not_le, ge_iff_le, gt_iff_lt, ne_eq, d7] at hb; first | (exfalso; omega) | skip) | skip)) | (apply Sd.mk; · exact aS2))); (all_goals (try (conv => whnf)))
        all_goals first | (exfalso; omega) | (exfalso; simp at hb; done) | (apply Fin.mk (m := [(0, some 0), (1, some 1), (2, some 2)]); (focus exact rfl); (all_goals ((try (show HlS _ _ [] _)); first | (exact aFi) | exact rfl))) | trace_state
    · refine fn_of_vc mixed tys_ok _ _ Try.func3 (by kernel_rfl) rfl Try.ntmps3 (by rw [Try.results3]) rfl ?_; dsimp only [argTm, argHl, Nat.zero_add, Nat.reduceAdd, List.length_nil, List.length_cons]
      (repeat' ((conv => whnf); first | ((first | apply Br.mk | apply Gd.mk) <;> (intro hb; first | exact aK2 hb | (simp only [d1, d2, beq_iff_eq, bne_iff_ne, d3, d4, d5, d6, Int.not_lt, Int.not_le, ge_iff_le, gt_iff_lt, ne_eq, d7] at hb; first | (exfalso; omega) | skip) | skip))  |  (refine Eqs.mk _ (eqt_ok _ _ rfl _ _ _ rfl) ?_)  |  (refine vcall_pure (awake17_fn) rfl ?_)  |  (refine vcall_det (cfew) [⟨_, 0⟩] [(_, _)] rfl ⟨rfl, trivial⟩ ⟨rfl, rowM_ro (by assumption), trivial⟩ ⟨rfl, up_ok rfl⟩ ?_) | ((with_reducible apply Vl.mk (α := Nat)); · exact aNt) | (with_reducible apply sd_draw; · kernel_rfl) | (apply Sd.mk; · exact aSd) | ((with_reducible apply Vl.mk (α := Int)); · exact aAr) | ((with_reducible first | apply Vl.mk (α := Bool) | apply Vl.mk (α := Nat) | apply Vl.mk (α := ByteArray) | apply Ge.mk (α := Row) | apply Ge.mk (α := SV) | apply Ge.mk (α := AV)); · exact rfl) | (refine And.intro rfl ?_) | ((with_reducible first | apply Vl.mk (α := List SV) | apply Vl.mk (α := Ef) | apply Vl.mk (α := TV) | apply Ge.mk (α := List SV) | apply Sg.mk | apply Sk.mk); · exact aCl) | ((first | apply Br.mk | apply Gd.mk) <;> (intro hb; first | exact aKl hb | (simp only [d1, d2, beq_iff_eq, bne_iff_ne, d3, d4, d5, d6, Int.not_lt, Int.not_le, ge_iff_le, gt_iff_lt, ne_eq, d7] at hb; first | (exfalso; omega) | skip) | skip)) | (apply Sd.mk; · exact aS2))); (all_goals (try (conv => whnf)))
      all_goals first | (exfalso; omega) | (exfalso; simp at hb; done) | (apply Fin.mk (m := [(0, some 0), (1, some 1), (2, some 2)]); (focus exact rfl); (all_goals ((try (show HlS _ _ [] _)); first | (exact aFi) | exact rfl))) | trace_state
  obtain ⟨hp2, rfl, hbl2⟩ := hg
  obtain ⟨h24, h20⟩ := hBf.1 rfl
  have cc := code17_fn ls n hn hn2
  obtain ⟨xb, DV, IV, WV, ok, B, K, R, s4, s5, s6, f1, f2, f3, f4, i1, i2, i3, w1, w2, w3, k1, k2⟩ := tells_ct (c17 ls 128) (c17_len ls 128) (c17_lt ls 128) c N hN (by omega) (fun e he => ⟨(hA e he).1, by have := h20 e he; omega, (hA e he).2⟩) x b ⟨hb.1, by omega, hb.2⟩ fr
  have s7 := wsv_scal (c17 ls 128)
  obtain ⟨A, L, l⟩ := b
  obtain ⟨xA, xL, xl⟩ := xb
  dsimp only [Bk.C] at *
  clear hBf hb hA hN h20
  generalize isv .i64 ls = LL at *
  generalize isv .i64 acs = AA at *
  generalize bks c = CV at *
  generalize wsv (c17 ls 128) = XX at *
  generalize l.length = KL at *
  generalize mzs l = M at *
  generalize xl.length = XN at *
  generalize mzs xl = XM at *
  cases ok <;> cases B
  all_goals
    refine fn_of_vc mixed tys_ok _ _ Try.func3 (by kernel_rfl) rfl Try.ntmps3 (by rw [Try.results3]) rfl ?_; dsimp only [argTm, argHl, Nat.zero_add, Nat.reduceAdd, List.length_nil, List.length_cons]
    (repeat' ((conv => whnf); first | ((first | apply Br.mk | apply Gd.mk) <;> (intro hb; first | exact aK2 hb | (simp only [d1, d2, beq_iff_eq, bne_iff_ne, d3, d4, d5, d6, Int.not_lt, Int.not_le, ge_iff_le, gt_iff_lt, ne_eq, d7] at hb; first | (exfalso; omega) | skip) | skip))  |  (refine Eqs.mk _ (eqt_ok _ _ rfl _ _ _ rfl) ?_)  |  (refine vcall_pure (awake17_fn) rfl ?_)  |  (refine vcall_det (cfew) [⟨_, 0⟩] [(_, _)] rfl ⟨rfl, trivial⟩ ⟨rfl, rowM_ro (by assumption), trivial⟩ ⟨rfl, up_ok rfl⟩ ?_)  |  (refine vcall_det (cc) [⟨_, 0⟩] [(_, _)] rfl ⟨rfl, trivial⟩ ⟨rfl, rowM_ro (by assumption), trivial⟩ ⟨rfl, up_ok rfl⟩ ?_)  |  (refine vcall_det (f1) [⟨_, 0⟩] [(_, _)] rfl ⟨rfl, trivial⟩ ⟨rfl, rowM_ro (by assumption), trivial⟩ ⟨rfl, up_ok rfl⟩ ?_)  |  (refine vcall_det (f2) [⟨_, 0⟩] [(_, _)] rfl ⟨rfl, trivial⟩ ⟨rfl, rowM_ro (by assumption), trivial⟩ ⟨rfl, up_ok rfl⟩ ?_)  |  (refine vcall_pure (f3) rfl ?_)  |  (refine vcall_det (f4) [⟨_, 0⟩, ⟨_, 0⟩] [(_, _), (_, _)] rfl ⟨rfl, rfl, trivial⟩ ⟨rfl, rowM_ro (by assumption), rfl, rowM_ro (by assumption), trivial⟩ ⟨rfl, up_ok rfl⟩ ?_)  |  (refine vcall_det (i1) [⟨_, 0⟩] [(_, _)] rfl ⟨rfl, trivial⟩ ⟨rfl, rowM_ro (by assumption), trivial⟩ ⟨rfl, up_ok rfl⟩ ?_)  |  (refine vcall_det (i2) [⟨_, 0⟩] [(_, _)] rfl ⟨rfl, trivial⟩ ⟨rfl, rowM_ro (by assumption), trivial⟩ ⟨rfl, up_ok rfl⟩ ?_)  |  (refine vcall_det (i3) [⟨_, 0⟩, ⟨_, 0⟩] [(_, _), (_, _)] rfl ⟨rfl, rfl, trivial⟩ ⟨rfl, rowM_ro (by assumption), rfl, rowM_ro (by assumption), trivial⟩ ⟨rfl, up_ok rfl⟩ ?_)  |  (refine vcall_det (w1) [⟨_, 0⟩] [(_, _)] rfl ⟨rfl, trivial⟩ ⟨rfl, rowM_ro (by assumption), trivial⟩ ⟨rfl, up_ok rfl⟩ ?_)  |  (refine vcall_det (w2) [⟨_, 0⟩] [(_, _)] rfl ⟨rfl, trivial⟩ ⟨rfl, rowM_ro (by assumption), trivial⟩ ⟨rfl, up_ok rfl⟩ ?_)  |  (refine vcall_det (w3) [⟨_, 0⟩, ⟨_, 0⟩] [(_, _), (_, _)] rfl ⟨rfl, rfl, trivial⟩ ⟨rfl, rowM_ro (by assumption), rfl, rowM_ro (by assumption), trivial⟩ ⟨rfl, up_ok rfl⟩ ?_)  |  (refine vcall_det (k1) [⟨_, 0⟩, ⟨_, 0⟩] [(_, _), (_, _)] rfl ⟨rfl, rfl, trivial⟩ ⟨rfl, rowM_ro (by assumption), rfl, rowM_ro (by assumption), trivial⟩ ⟨rfl, up_ok rfl⟩ ?_)  |  (refine vcall_det (k2) [⟨_, 0⟩, ⟨_, 0⟩] [(_, _), (_, _)] rfl ⟨rfl, rfl, trivial⟩ ⟨rfl, rowM_ro (by assumption), rfl, rowM_ro (by assumption), trivial⟩ ⟨rfl, up_ok rfl⟩ ?_) | ((with_reducible apply Vl.mk (α := Nat)); · exact aNt) | (with_reducible apply sd_draw; · kernel_rfl) | (apply Sd.mk; · exact aSd) | ((with_reducible apply Vl.mk (α := Int)); · exact aAr) | ((with_reducible first | apply Vl.mk (α := Bool) | apply Vl.mk (α := Nat) | apply Vl.mk (α := ByteArray) | apply Ge.mk (α := Row) | apply Ge.mk (α := SV) | apply Ge.mk (α := AV)); · exact rfl) | (refine And.intro rfl ?_) | ((with_reducible first | apply Vl.mk (α := List SV) | apply Vl.mk (α := Ef) | apply Vl.mk (α := TV) | apply Ge.mk (α := List SV) | apply Sg.mk | apply Sk.mk); · exact aCl) | ((first | apply Br.mk | apply Gd.mk) <;> (intro hb; first | exact aKl hb | (simp only [d1, d2, beq_iff_eq, bne_iff_ne, d3, d4, d5, d6, Int.not_lt, Int.not_le, ge_iff_le, gt_iff_lt, ne_eq, d7] at hb; first | (exfalso; omega) | skip) | skip)) | (apply Sd.mk; · exact aS2))); (all_goals (try (conv => whnf)))
    all_goals first | (exfalso; omega) | (exfalso; simp at hb; done) | (apply Fin.mk (m := [(0, some 0), (1, some 1), (2, some 2)]); (focus exact rfl); (all_goals ((try (show HlS _ _ [] _)); first | (exact aFi) | exact rfl))) | trace_state
end Go.Proofs.Ytcaddlighhiepaa
