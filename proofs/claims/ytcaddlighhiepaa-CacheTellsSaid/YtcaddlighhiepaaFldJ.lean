import Derived.Test.YtcaddlighhiepaaOptB
import Derived.Test.YtcaddlighhiepaaMiA
import Derived.Test.YtcaddlighhiepaaAluC
/- Folding one operation: rewrite, after, for any operation and any known registers (UNDER WAY: for the general Fold). -/
namespace Go.Proofs.Ytcaddlighhiepaa
open Go Go.RowKit
set_option linter.unusedSimpArgs false
set_option linter.unusedVariables false

set_option maxRecDepth 100000 in
theorem arithG_fn (o : Int) : Fn Try.prog 79 [.s (.int .i64 o)] [] (· = ⟨.a (.s (.bool (aluB o))), [], []⟩) := by
  have h : Fn Try.prog 81 [.s (.int .i64 o), .s (.int .u32 0), .s (.int .u32 0)] [] (· = ⟨.tup [.s (.int .u32 (aluV o 0 0)), .s (.bool (aluB o))], [], []⟩) := alu_fn o 0 0 (by omega) (by omega)
  generalize aluV o 0 0 = z at *
  generalize aluB o = b at *
  refine fn_of_vc mixed tys_ok _ _ Try.func79 (by kernel_rfl) rfl Try.ntmps79 (by rw [Try.results79]) rfl ?_; dsimp only [argTm, argHl, Nat.zero_add, Nat.reduceAdd, List.length_nil, List.length_cons]
  (repeat' ((conv => whnf); first | (refine vcall_pure (f := 81) (h) rfl ?_) | (with_reducible apply sd_draw; · kernel_rfl) | (apply Sd.mk; · exact aSd) | ((with_reducible apply Vl.mk (α := Int)); · exact aAr) | ((with_reducible first | apply Vl.mk (α := Bool) | apply Vl.mk (α := Nat) | apply Vl.mk (α := ByteArray) | apply Ge.mk (α := Row) | apply Ge.mk (α := SV) | apply Ge.mk (α := AV)); · exact rfl) | (refine And.intro rfl ?_) | ((with_reducible first | apply Vl.mk (α := List SV) | apply Vl.mk (α := Ef) | apply Vl.mk (α := TV) | apply Ge.mk (α := List SV) | apply Sg.mk | apply Sk.mk); · exact aCl) | ((first | apply Br.mk | apply Gd.mk) <;> (intro hb; first | exact aKl hb | (simp only [d1, d2, beq_iff_eq, bne_iff_ne, d3, d4, d5, d6, Int.not_lt, Int.not_le, ge_iff_le, gt_iff_lt, ne_eq, d7] at hb; first | (exfalso; omega) | skip) | skip)))); (all_goals (try (conv => whnf)))
  all_goals exact fin_pure rfl rfl
def thrB (o : Int) : Bool := decide (1 ≤ o ∧ o ≤ 13)
set_option maxRecDepth 100000 in
theorem threeG_fn (o : Int) : Fn Try.prog 80 [.s (.int .i64 o)] [] (· = ⟨.a (.s (.bool (thrB o))), [], []⟩) := by
  refine fn_of_vc mixed tys_ok _ _ Try.func80 (by kernel_rfl) rfl Try.ntmps80 (by rw [Try.results80]) rfl ?_; dsimp only [argTm, argHl, Nat.zero_add, Nat.reduceAdd, List.length_nil, List.length_cons]
  (repeat' ((conv => whnf); first | (with_reducible apply sd_draw; · kernel_rfl) | (apply Sd.mk; · exact aSd) | ((with_reducible apply Vl.mk (α := Int)); · exact aAr) | ((with_reducible first | apply Vl.mk (α := Bool) | apply Vl.mk (α := Nat) | apply Vl.mk (α := ByteArray) | apply Ge.mk (α := Row) | apply Ge.mk (α := SV) | apply Ge.mk (α := AV)); · exact rfl) | (refine And.intro rfl ?_) | ((with_reducible first | apply Vl.mk (α := List SV) | apply Vl.mk (α := Ef) | apply Vl.mk (α := TV) | apply Ge.mk (α := List SV) | apply Sg.mk | apply Sk.mk); · exact aCl) | ((first | apply Br.mk | apply Gd.mk) <;> (intro hb; first | exact aKl hb | (simp only [d1, d2, beq_iff_eq, bne_iff_ne, d3, d4, d5, d6, Int.not_lt, Int.not_le, ge_iff_le, gt_iff_lt, ne_eq, d7] at hb; first | (exfalso; omega) | skip) | skip)))); (all_goals (try (conv => whnf)))
  all_goals (refine fin_pure rfl ?_; simp only [mkRes, thrB]; congr 3; first | (refine (decide_eq_false ?_).symm; omega) | (rw [Bool.eq_iff_iff]; simp only [decide_eq_true_eq]; omega))
def wrtB (o : Int) : Bool := decide (o = 24 ∨ 32 ≤ o ∧ o ≤ 34 ∨ o = 48 ∨ o = 49 ∨ o = 58 ∨ o = 60) || aluB o
set_option maxRecDepth 100000 in
theorem writesG_fn (o : Int) : Fn Try.prog 83 [.s (.int .i64 o)] [] (· = ⟨.a (.s (.bool (wrtB o))), [], []⟩) := by
  have h := arithG_fn o
  unfold wrtB
  generalize aluB o = b at *
  refine fn_of_vc mixed tys_ok _ _ Try.func83 (by kernel_rfl) rfl Try.ntmps83 (by rw [Try.results83]) rfl ?_; dsimp only [argTm, argHl, Nat.zero_add, Nat.reduceAdd, List.length_nil, List.length_cons]
  (repeat' ((conv => whnf); first | (refine vcall_pure (f := 79) (h) rfl ?_) | (with_reducible apply sd_draw; · kernel_rfl) | (apply Sd.mk; · exact aSd) | ((with_reducible apply Vl.mk (α := Int)); · exact aAr) | ((with_reducible first | apply Vl.mk (α := Bool) | apply Vl.mk (α := Nat) | apply Vl.mk (α := ByteArray) | apply Ge.mk (α := Row) | apply Ge.mk (α := SV) | apply Ge.mk (α := AV)); · exact rfl) | (refine And.intro rfl ?_) | ((with_reducible first | apply Vl.mk (α := List SV) | apply Vl.mk (α := Ef) | apply Vl.mk (α := TV) | apply Ge.mk (α := List SV) | apply Sg.mk | apply Sk.mk); · exact aCl) | ((first | apply Br.mk | apply Gd.mk) <;> (intro hb; first | exact aKl hb | (simp only [d1, d2, beq_iff_eq, bne_iff_ne, d3, d4, d5, d6, Int.not_lt, Int.not_le, ge_iff_le, gt_iff_lt, ne_eq, d7] at hb; first | (exfalso; omega) | skip) | skip)))); (all_goals (try (conv => whnf)))
  all_goals
    apply fin_pure
    (focus rfl)
    simp only [mkRes]
    congr 3
    first
      | (rw [decide_eq_true (by omega)]; rfl)
      | (rw [decide_eq_false (by omega)]; rfl)
def immV (o : Int) : Int := if o = 1 ∨ o = 2 then 16 else if o = 3 then 17 else if o = 4 then 18 else if o = 5 then 19 else if o = 6 then 20 else if o = 7 then 21 else if o = 8 then 22 else if o = 12 then 23 else 0
set_option maxRecDepth 100000 in
theorem immG_fn (o : Int) : Fn Try.prog 82 [.s (.int .i64 o)] [] (· = ⟨.a (.s (.int .i64 (immV o))), [], []⟩) := by
  refine fn_of_vc mixed tys_ok _ _ Try.func82 (by kernel_rfl) rfl Try.ntmps82 (by rw [Try.results82]) rfl ?_; dsimp only [argTm, argHl, Nat.zero_add, Nat.reduceAdd, List.length_nil, List.length_cons]
  (repeat' ((conv => whnf); first | (with_reducible apply sd_draw; · kernel_rfl) | (apply Sd.mk; · exact aSd) | ((with_reducible apply Vl.mk (α := Int)); · exact aAr) | ((with_reducible first | apply Vl.mk (α := Bool) | apply Vl.mk (α := Nat) | apply Vl.mk (α := ByteArray) | apply Ge.mk (α := Row) | apply Ge.mk (α := SV) | apply Ge.mk (α := AV)); · exact rfl) | (refine And.intro rfl ?_) | ((with_reducible first | apply Vl.mk (α := List SV) | apply Vl.mk (α := Ef) | apply Vl.mk (α := TV) | apply Ge.mk (α := List SV) | apply Sg.mk | apply Sk.mk); · exact aCl) | ((first | apply Br.mk | apply Gd.mk) <;> (intro hb; first | exact aKl hb | (simp only [d1, d2, beq_iff_eq, bne_iff_ne, d3, d4, d5, d6, Int.not_lt, Int.not_le, ge_iff_le, gt_iff_lt, ne_eq, d7] at hb; first | (exfalso; omega) | skip) | skip)))); (all_goals (try (conv => whnf)))
  all_goals first
    | (subst hb; exact fin_pure rfl rfl)
    | (refine fin_pure rfl ?_
       simp only [mkRes]
       congr 3
       unfold immV
       rw [if_neg (by omega), if_neg (by omega), if_neg (by omega), if_neg (by omega), if_neg (by omega), if_neg (by omega), if_neg (by omega), if_neg (by omega)])
def bsv (bs : List Bool) : List SV := bs.map SV.bool
def knC (is : List Bool) (v : List Nat) : List SV := bsv is ++ wsv v
theorem rd_is (is : List Bool) (v : List Nat) (r : Nat) (hi : is.length = 16) (hr : r < 16) : (knC is v)[0 + 0 + ((r : Nat) : Int).toNat * ty4.size]? = some (.bool (is.getD r false)) := by
  have e : 0 + 0 + ((r : Nat) : Int).toNat * ty4.size = r := by show 0 + 0 + ((r : Nat) : Int).toNat * 1 = r; omega
  rw [e]
  unfold knC bsv
  rw [List.getElem?_append_left (by simp [hi, hr]), List.getElem?_map, List.getElem?_eq_getElem (by omega)]
  simp [List.getD, hi, hr]
theorem rd_val (is : List Bool) (v : List Nat) (r : Nat) (hi : is.length = 16) (hv : v.length = 16) (hr : r < 16) : (knC is v)[0 + 16 + ((r : Nat) : Int).toNat * ty24.size]? = some (.int .u32 (v.getD r 0 : Nat)) := by
  have e : 0 + 16 + ((r : Nat) : Int).toNat * ty24.size = 16 + r := by show 0 + 16 + ((r : Nat) : Int).toNat * 1 = _; omega
  rw [e]
  unfold knC bsv
  rw [List.getElem?_append_right (by simp [hi])]
  simp only [List.length_map, hi, Nat.add_sub_cancel_left]
  exact wsv_get v r (by omega)
def rewM (m : Mi) (is : List Bool) (v : List Nat) : Mi :=
  if 32 ≤ m.o ∧ m.o ≤ 36 then (if is.getD m.b false = true ∧ m.b ≠ 0 then { m with k := (m.k + v.getD m.b 0) % 4294967296, b := 0 } else m)
  else if 40 ≤ m.o ∧ m.o ≤ 45 then (if is.getD m.a false = true ∧ is.getD m.b false = true then { o := 48, a := 0, b := 0, c := 0, k := if takI m.o (v.getD m.a 0 : Nat) (v.getD m.b 0 : Nat) then m.k else 4, n := m.n } else m)
  else if aluB m.o = false then m
  else if is.getD m.b false = true ∧ (thrB m.o = false ∨ is.getD m.c false = true) then { m with o := 24, b := 0, c := 0, k := aluN m.o (v.getD m.b 0) (if thrB m.o then v.getD m.c 0 else m.k) }
  else if immV m.o ≠ 0 ∧ is.getD m.c false = true then { m with o := immV m.o, c := 0, k := if m.o = 2 then (4294967296 - v.getD m.c 0) % 4294967296 else v.getD m.c 0 }
  else m
end Go.Proofs.Ytcaddlighhiepaa

/- Folding one operation: rewrite, for any operation and any known registers (UNDER WAY). -/
namespace Go.Proofs.Ytcaddlighhiepaa
open Go Go.RowKit
set_option linter.unusedSimpArgs false
set_option linter.unusedVariables false

theorem bsv_known (l : List Bool) : allKnown (bsv l) = true := by
  induction l with
  | nil => rfl
  | cons x l ih => exact ih
theorem known_app {l l' : List SV} (h : allKnown l = true) (h' : allKnown l' = true) : allKnown (l ++ l') = true := by
  induction l with
  | nil => exact h'
  | cons s l ih => cases s <;> first | exact ih h | cases h
theorem kn_known (is : List Bool) (v : List Nat) : allKnown (knC is v) = true := known_app (bsv_known is) (wsv_known v)
set_option maxHeartbeats 1000000 in
set_option maxRecDepth 100000 in
theorem rewG_mem1 (o n : Int) (a b c k va vb vc : Nat) (is : List Bool) (v : List Nat) (ia ib ic : Bool) (hi : is.length = 16) (hv : v.length = 16) (hvr : ∀ y ∈ v, y < 4294967296) (ha : a < 16) (hb0 : b < 16) (hc : c < 16) (hk : k < 4294967296)
    (ga : is.getD a false = ia) (gb : is.getD b false = ib) (gc : is.getD c false = ic) (ua : v.getD a 0 = va) (ub : v.getD b 0 = vb) (uc : v.getD c 0 = vc) (la : va < 4294967296) (lb : vb < 4294967296) (lc : vc < 4294967296) (ho : 32 ≤ o ∧ o ≤ 36) (h : ib = true) (hb1 : b ≠ 0) :
    Fn Try.prog 62 [.agg (Mi.C ⟨o, a, b, c, k, n⟩), .agg (knC is v)] [] (· = ⟨.a (.agg (Mi.C (rewM ⟨o, a, b, c, k, n⟩ is v))), [], []⟩) := by
  have ra := rd_is is v a hi ha
  have rb := rd_is is v b hi hb0
  have rc := rd_is is v c hi hc
  have wa := rd_val is v a hi hv ha
  have wb := rd_val is v b hi hv hb0
  have wc := rd_val is v c hi hv hc
  rw [ga] at ra
  rw [gb] at rb
  rw [gc] at rc
  rw [ua] at wa
  rw [ub] at wb
  rw [uc] at wc
  have hsc := kn_known is v
  have e : rewM ⟨o, a, b, c, k, n⟩ is v = ⟨o, a, 0, c, (k + vb) % 4294967296, n⟩ := by
    unfold rewM
    simp only [ga, gb, gc, ua, ub, uc]
    rw [if_pos ho, if_pos ⟨h, hb1⟩]
  rw [e]
  clear ga gb gc ua ub uc
  subst h
  have q1 : IntKind.u32.wrap ((k : Int) + (vb : Int)) = (((k + vb) % 4294967296 : Nat) : Int) := by rw [wu32']; omega
  generalize knC is v = KN at *
  refine fn_of_vc mixed tys_ok _ _ Try.func62 (by kernel_rfl) rfl Try.ntmps62 (by rw [Try.results62]) rfl ?_; dsimp only [argTm, argHl, Nat.zero_add, Nat.reduceAdd, List.length_nil, List.length_cons]
  dsimp only [Mi.C]
  (repeat' ((conv => whnf); first | (apply Sd.mk; · exact hsc)  |  ((with_reducible apply Ge.mk (α := SV)); · with_reducible first | exact ra | exact rb | exact rc | exact wa | exact wb | exact wc)  |  ((with_reducible apply Vl.mk (α := Int)); · with_reducible exact q1) | (with_reducible apply sd_draw; · kernel_rfl) | (apply Sd.mk; · exact aSd) | ((with_reducible apply Vl.mk (α := Int)); · exact aAr) | ((with_reducible first | apply Vl.mk (α := Bool) | apply Vl.mk (α := Nat) | apply Vl.mk (α := ByteArray) | apply Ge.mk (α := Row) | apply Ge.mk (α := SV) | apply Ge.mk (α := AV)); · exact rfl) | (refine And.intro rfl ?_) | ((with_reducible first | apply Vl.mk (α := List SV) | apply Vl.mk (α := Ef) | apply Vl.mk (α := TV) | apply Ge.mk (α := List SV) | apply Sg.mk | apply Sk.mk); · exact aCl) | ((first | apply Br.mk | apply Gd.mk) <;> (intro hb; first | exact aKl hb | (simp only [d1, d2, beq_iff_eq, bne_iff_ne, d3, d4, d5, d6, Int.not_lt, Int.not_le, ge_iff_le, gt_iff_lt, ne_eq, d7] at hb; first | (exfalso; omega) | skip) | skip)))); (all_goals (try (conv => whnf)))
  all_goals
    first
      | exact fin_pure rfl rfl
      | trace_state
set_option maxHeartbeats 1000000 in
set_option maxRecDepth 100000 in
theorem rewG_mem0 (o n : Int) (a b c k va vb vc : Nat) (is : List Bool) (v : List Nat) (ia ib ic : Bool) (hi : is.length = 16) (hv : v.length = 16) (hvr : ∀ y ∈ v, y < 4294967296) (ha : a < 16) (hb0 : b < 16) (hc : c < 16) (hk : k < 4294967296)
    (ga : is.getD a false = ia) (gb : is.getD b false = ib) (gc : is.getD c false = ic) (ua : v.getD a 0 = va) (ub : v.getD b 0 = vb) (uc : v.getD c 0 = vc) (la : va < 4294967296) (lb : vb < 4294967296) (lc : vc < 4294967296) (ho : 32 ≤ o ∧ o ≤ 36) (h : ib = false) :
    Fn Try.prog 62 [.agg (Mi.C ⟨o, a, b, c, k, n⟩), .agg (knC is v)] [] (· = ⟨.a (.agg (Mi.C (rewM ⟨o, a, b, c, k, n⟩ is v))), [], []⟩) := by
  have ra := rd_is is v a hi ha
  have rb := rd_is is v b hi hb0
  have rc := rd_is is v c hi hc
  have wa := rd_val is v a hi hv ha
  have wb := rd_val is v b hi hv hb0
  have wc := rd_val is v c hi hv hc
  rw [ga] at ra
  rw [gb] at rb
  rw [gc] at rc
  rw [ua] at wa
  rw [ub] at wb
  rw [uc] at wc
  have hsc := kn_known is v
  have e : rewM ⟨o, a, b, c, k, n⟩ is v = ⟨o, a, b, c, k, n⟩ := by
    unfold rewM
    simp only [ga, gb, gc, ua, ub, uc]
    rw [if_pos ho, if_neg (by rintro ⟨h1, h2⟩; rw [h] at h1; cases h1)]
  rw [e]
  clear ga gb gc ua ub uc
  subst h
  generalize knC is v = KN at *
  refine fn_of_vc mixed tys_ok _ _ Try.func62 (by kernel_rfl) rfl Try.ntmps62 (by rw [Try.results62]) rfl ?_; dsimp only [argTm, argHl, Nat.zero_add, Nat.reduceAdd, List.length_nil, List.length_cons]
  dsimp only [Mi.C]
  (repeat' ((conv => whnf); first | (apply Sd.mk; · exact hsc)  |  ((with_reducible apply Ge.mk (α := SV)); · with_reducible first | exact ra | exact rb | exact rc | exact wa | exact wb | exact wc) | (with_reducible apply sd_draw; · kernel_rfl) | (apply Sd.mk; · exact aSd) | ((with_reducible apply Vl.mk (α := Int)); · exact aAr) | ((with_reducible first | apply Vl.mk (α := Bool) | apply Vl.mk (α := Nat) | apply Vl.mk (α := ByteArray) | apply Ge.mk (α := Row) | apply Ge.mk (α := SV) | apply Ge.mk (α := AV)); · exact rfl) | (refine And.intro rfl ?_) | ((with_reducible first | apply Vl.mk (α := List SV) | apply Vl.mk (α := Ef) | apply Vl.mk (α := TV) | apply Ge.mk (α := List SV) | apply Sg.mk | apply Sk.mk); · exact aCl) | ((first | apply Br.mk | apply Gd.mk) <;> (intro hb; first | exact aKl hb | (simp only [d1, d2, beq_iff_eq, bne_iff_ne, d3, d4, d5, d6, Int.not_lt, Int.not_le, ge_iff_le, gt_iff_lt, ne_eq, d7] at hb; first | (exfalso; omega) | skip) | skip)))); (all_goals (try (conv => whnf)))
  all_goals
    first
      | exact fin_pure rfl rfl
      | trace_state
set_option maxHeartbeats 1000000 in
set_option maxRecDepth 100000 in
theorem rewG_memz (o n : Int) (a b c k va vb vc : Nat) (is : List Bool) (v : List Nat) (ia ib ic : Bool) (hi : is.length = 16) (hv : v.length = 16) (hvr : ∀ y ∈ v, y < 4294967296) (ha : a < 16) (hb0 : b < 16) (hc : c < 16) (hk : k < 4294967296)
    (ga : is.getD a false = ia) (gb : is.getD b false = ib) (gc : is.getD c false = ic) (ua : v.getD a 0 = va) (ub : v.getD b 0 = vb) (uc : v.getD c 0 = vc) (la : va < 4294967296) (lb : vb < 4294967296) (lc : vc < 4294967296) (ho : 32 ≤ o ∧ o ≤ 36) (h : b = 0) :
    Fn Try.prog 62 [.agg (Mi.C ⟨o, a, b, c, k, n⟩), .agg (knC is v)] [] (· = ⟨.a (.agg (Mi.C (rewM ⟨o, a, b, c, k, n⟩ is v))), [], []⟩) := by
  have ra := rd_is is v a hi ha
  have rb := rd_is is v b hi hb0
  have rc := rd_is is v c hi hc
  have wa := rd_val is v a hi hv ha
  have wb := rd_val is v b hi hv hb0
  have wc := rd_val is v c hi hv hc
  rw [ga] at ra
  rw [gb] at rb
  rw [gc] at rc
  rw [ua] at wa
  rw [ub] at wb
  rw [uc] at wc
  have hsc := kn_known is v
  have e : rewM ⟨o, a, b, c, k, n⟩ is v = ⟨o, a, b, c, k, n⟩ := by
    unfold rewM
    simp only [ga, gb, gc, ua, ub, uc]
    rw [if_pos ho, if_neg (by rintro ⟨h1, h2⟩; exact h2 h)]
  rw [e]
  clear ga gb gc ua ub uc
  generalize knC is v = KN at *
  refine fn_of_vc mixed tys_ok _ _ Try.func62 (by kernel_rfl) rfl Try.ntmps62 (by rw [Try.results62]) rfl ?_; dsimp only [argTm, argHl, Nat.zero_add, Nat.reduceAdd, List.length_nil, List.length_cons]
  dsimp only [Mi.C]
  (repeat' ((conv => whnf); first | (apply Sd.mk; · exact hsc)  |  ((with_reducible apply Ge.mk (α := SV)); · with_reducible first | exact ra | exact rb | exact rc | exact wa | exact wb | exact wc) | (with_reducible apply sd_draw; · kernel_rfl) | (apply Sd.mk; · exact aSd) | ((with_reducible apply Vl.mk (α := Int)); · exact aAr) | ((with_reducible first | apply Vl.mk (α := Bool) | apply Vl.mk (α := Nat) | apply Vl.mk (α := ByteArray) | apply Ge.mk (α := Row) | apply Ge.mk (α := SV) | apply Ge.mk (α := AV)); · exact rfl) | (refine And.intro rfl ?_) | ((with_reducible first | apply Vl.mk (α := List SV) | apply Vl.mk (α := Ef) | apply Vl.mk (α := TV) | apply Ge.mk (α := List SV) | apply Sg.mk | apply Sk.mk); · exact aCl) | ((first | apply Br.mk | apply Gd.mk) <;> (intro hb; first | exact aKl hb | (simp only [d1, d2, beq_iff_eq, bne_iff_ne, d3, d4, d5, d6, Int.not_lt, Int.not_le, ge_iff_le, gt_iff_lt, ne_eq, d7] at hb; first | (exfalso; omega) | skip) | skip)))); (all_goals (try (conv => whnf)))
  all_goals
    first
      | exact fin_pure rfl rfl
      | trace_state
set_option maxHeartbeats 1000000 in
set_option maxRecDepth 100000 in
theorem rewG_br1 (o n : Int) (a b c k va vb vc : Nat) (is : List Bool) (v : List Nat) (ia ib ic : Bool) (hi : is.length = 16) (hv : v.length = 16) (hvr : ∀ y ∈ v, y < 4294967296) (ha : a < 16) (hb0 : b < 16) (hc : c < 16) (hk : k < 4294967296)
    (ga : is.getD a false = ia) (gb : is.getD b false = ib) (gc : is.getD c false = ic) (ua : v.getD a 0 = va) (ub : v.getD b 0 = vb) (uc : v.getD c 0 = vc) (la : va < 4294967296) (lb : vb < 4294967296) (lc : vc < 4294967296) (ho : 40 ≤ o ∧ o ≤ 45) (h1 : ia = true) (h2 : ib = true) (tk : Bool) (htk : takI o va vb = tk) :
    Fn Try.prog 62 [.agg (Mi.C ⟨o, a, b, c, k, n⟩), .agg (knC is v)] [] (· = ⟨.a (.agg (Mi.C (rewM ⟨o, a, b, c, k, n⟩ is v))), [], []⟩) := by
  have ra := rd_is is v a hi ha
  have rb := rd_is is v b hi hb0
  have rc := rd_is is v c hi hc
  have wa := rd_val is v a hi hv ha
  have wb := rd_val is v b hi hv hb0
  have wc := rd_val is v c hi hv hc
  rw [ga] at ra
  rw [gb] at rb
  rw [gc] at rc
  rw [ua] at wa
  rw [ub] at wb
  rw [uc] at wc
  have hsc := kn_known is v
  have e : rewM ⟨o, a, b, c, k, n⟩ is v = ⟨48, 0, 0, 0, if tk then k else 4, n⟩ := by
    unfold rewM
    simp only [ga, gb, gc, ua, ub, uc]
    rw [if_neg (by omega), if_pos ho, if_pos ⟨h1, h2⟩, htk]
  rw [e]
  clear ga gb gc ua ub uc
  subst h1
  subst h2
  have ht := otaken_fn o va vb
  rw [htk] at ht
  clear htk e
  revert ht
  cases tk
  all_goals
   intro ht
   generalize knC is v = KN at *
   refine fn_of_vc mixed tys_ok _ _ Try.func62 (by kernel_rfl) rfl Try.ntmps62 (by rw [Try.results62]) rfl ?_; dsimp only [argTm, argHl, Nat.zero_add, Nat.reduceAdd, List.length_nil, List.length_cons]
   dsimp only [Mi.C]
   (repeat' ((conv => whnf); first | (apply Sd.mk; · exact hsc)  |  ((with_reducible apply Ge.mk (α := SV)); · with_reducible first | exact ra | exact rb | exact rc | exact wa | exact wb | exact wc)  |  (refine vcall_pure (f := 78) (ht) rfl ?_) | (with_reducible apply sd_draw; · kernel_rfl) | (apply Sd.mk; · exact aSd) | ((with_reducible apply Vl.mk (α := Int)); · exact aAr) | ((with_reducible first | apply Vl.mk (α := Bool) | apply Vl.mk (α := Nat) | apply Vl.mk (α := ByteArray) | apply Ge.mk (α := Row) | apply Ge.mk (α := SV) | apply Ge.mk (α := AV)); · exact rfl) | (refine And.intro rfl ?_) | ((with_reducible first | apply Vl.mk (α := List SV) | apply Vl.mk (α := Ef) | apply Vl.mk (α := TV) | apply Ge.mk (α := List SV) | apply Sg.mk | apply Sk.mk); · exact aCl) | ((first | apply Br.mk | apply Gd.mk) <;> (intro hb; first | exact aKl hb | (simp only [d1, d2, beq_iff_eq, bne_iff_ne, d3, d4, d5, d6, Int.not_lt, Int.not_le, ge_iff_le, gt_iff_lt, ne_eq, d7] at hb; first | (exfalso; omega) | skip) | skip)))); (all_goals (try (conv => whnf)))
   all_goals
     first
       | exact fin_pure rfl rfl
       | trace_state
set_option maxHeartbeats 1000000 in
set_option maxRecDepth 100000 in
theorem rewG_bra (o n : Int) (a b c k va vb vc : Nat) (is : List Bool) (v : List Nat) (ia ib ic : Bool) (hi : is.length = 16) (hv : v.length = 16) (hvr : ∀ y ∈ v, y < 4294967296) (ha : a < 16) (hb0 : b < 16) (hc : c < 16) (hk : k < 4294967296)
    (ga : is.getD a false = ia) (gb : is.getD b false = ib) (gc : is.getD c false = ic) (ua : v.getD a 0 = va) (ub : v.getD b 0 = vb) (uc : v.getD c 0 = vc) (la : va < 4294967296) (lb : vb < 4294967296) (lc : vc < 4294967296) (ho : 40 ≤ o ∧ o ≤ 45) (h1 : ia = false) :
    Fn Try.prog 62 [.agg (Mi.C ⟨o, a, b, c, k, n⟩), .agg (knC is v)] [] (· = ⟨.a (.agg (Mi.C (rewM ⟨o, a, b, c, k, n⟩ is v))), [], []⟩) := by
  have ra := rd_is is v a hi ha
  have rb := rd_is is v b hi hb0
  have rc := rd_is is v c hi hc
  have wa := rd_val is v a hi hv ha
  have wb := rd_val is v b hi hv hb0
  have wc := rd_val is v c hi hv hc
  rw [ga] at ra
  rw [gb] at rb
  rw [gc] at rc
  rw [ua] at wa
  rw [ub] at wb
  rw [uc] at wc
  have hsc := kn_known is v
  have e : rewM ⟨o, a, b, c, k, n⟩ is v = ⟨o, a, b, c, k, n⟩ := by
    unfold rewM
    simp only [ga, gb, gc, ua, ub, uc]
    rw [if_neg (by omega), if_pos ho, if_neg (by rintro ⟨h, _⟩; rw [h1] at h; cases h)]
  rw [e]
  clear ga gb gc ua ub uc
  subst h1
  generalize knC is v = KN at *
  refine fn_of_vc mixed tys_ok _ _ Try.func62 (by kernel_rfl) rfl Try.ntmps62 (by rw [Try.results62]) rfl ?_; dsimp only [argTm, argHl, Nat.zero_add, Nat.reduceAdd, List.length_nil, List.length_cons]
  dsimp only [Mi.C]
  (repeat' ((conv => whnf); first | (apply Sd.mk; · exact hsc)  |  ((with_reducible apply Ge.mk (α := SV)); · with_reducible first | exact ra | exact rb | exact rc | exact wa | exact wb | exact wc) | (with_reducible apply sd_draw; · kernel_rfl) | (apply Sd.mk; · exact aSd) | ((with_reducible apply Vl.mk (α := Int)); · exact aAr) | ((with_reducible first | apply Vl.mk (α := Bool) | apply Vl.mk (α := Nat) | apply Vl.mk (α := ByteArray) | apply Ge.mk (α := Row) | apply Ge.mk (α := SV) | apply Ge.mk (α := AV)); · exact rfl) | (refine And.intro rfl ?_) | ((with_reducible first | apply Vl.mk (α := List SV) | apply Vl.mk (α := Ef) | apply Vl.mk (α := TV) | apply Ge.mk (α := List SV) | apply Sg.mk | apply Sk.mk); · exact aCl) | ((first | apply Br.mk | apply Gd.mk) <;> (intro hb; first | exact aKl hb | (simp only [d1, d2, beq_iff_eq, bne_iff_ne, d3, d4, d5, d6, Int.not_lt, Int.not_le, ge_iff_le, gt_iff_lt, ne_eq, d7] at hb; first | (exfalso; omega) | skip) | skip)))); (all_goals (try (conv => whnf)))
  all_goals
    first
      | exact fin_pure rfl rfl
      | trace_state
set_option maxHeartbeats 1000000 in
set_option maxRecDepth 100000 in
theorem rewG_brb (o n : Int) (a b c k va vb vc : Nat) (is : List Bool) (v : List Nat) (ia ib ic : Bool) (hi : is.length = 16) (hv : v.length = 16) (hvr : ∀ y ∈ v, y < 4294967296) (ha : a < 16) (hb0 : b < 16) (hc : c < 16) (hk : k < 4294967296)
    (ga : is.getD a false = ia) (gb : is.getD b false = ib) (gc : is.getD c false = ic) (ua : v.getD a 0 = va) (ub : v.getD b 0 = vb) (uc : v.getD c 0 = vc) (la : va < 4294967296) (lb : vb < 4294967296) (lc : vc < 4294967296) (ho : 40 ≤ o ∧ o ≤ 45) (h1 : ia = true) (h2 : ib = false) :
    Fn Try.prog 62 [.agg (Mi.C ⟨o, a, b, c, k, n⟩), .agg (knC is v)] [] (· = ⟨.a (.agg (Mi.C (rewM ⟨o, a, b, c, k, n⟩ is v))), [], []⟩) := by
  have ra := rd_is is v a hi ha
  have rb := rd_is is v b hi hb0
  have rc := rd_is is v c hi hc
  have wa := rd_val is v a hi hv ha
  have wb := rd_val is v b hi hv hb0
  have wc := rd_val is v c hi hv hc
  rw [ga] at ra
  rw [gb] at rb
  rw [gc] at rc
  rw [ua] at wa
  rw [ub] at wb
  rw [uc] at wc
  have hsc := kn_known is v
  have e : rewM ⟨o, a, b, c, k, n⟩ is v = ⟨o, a, b, c, k, n⟩ := by
    unfold rewM
    simp only [ga, gb, gc, ua, ub, uc]
    rw [if_neg (by omega), if_pos ho, if_neg (by rintro ⟨_, h⟩; rw [h2] at h; cases h)]
  rw [e]
  clear ga gb gc ua ub uc
  subst h1
  subst h2
  generalize knC is v = KN at *
  refine fn_of_vc mixed tys_ok _ _ Try.func62 (by kernel_rfl) rfl Try.ntmps62 (by rw [Try.results62]) rfl ?_; dsimp only [argTm, argHl, Nat.zero_add, Nat.reduceAdd, List.length_nil, List.length_cons]
  dsimp only [Mi.C]
  (repeat' ((conv => whnf); first | (apply Sd.mk; · exact hsc)  |  ((with_reducible apply Ge.mk (α := SV)); · with_reducible first | exact ra | exact rb | exact rc | exact wa | exact wb | exact wc) | (with_reducible apply sd_draw; · kernel_rfl) | (apply Sd.mk; · exact aSd) | ((with_reducible apply Vl.mk (α := Int)); · exact aAr) | ((with_reducible first | apply Vl.mk (α := Bool) | apply Vl.mk (α := Nat) | apply Vl.mk (α := ByteArray) | apply Ge.mk (α := Row) | apply Ge.mk (α := SV) | apply Ge.mk (α := AV)); · exact rfl) | (refine And.intro rfl ?_) | ((with_reducible first | apply Vl.mk (α := List SV) | apply Vl.mk (α := Ef) | apply Vl.mk (α := TV) | apply Ge.mk (α := List SV) | apply Sg.mk | apply Sk.mk); · exact aCl) | ((first | apply Br.mk | apply Gd.mk) <;> (intro hb; first | exact aKl hb | (simp only [d1, d2, beq_iff_eq, bne_iff_ne, d3, d4, d5, d6, Int.not_lt, Int.not_le, ge_iff_le, gt_iff_lt, ne_eq, d7] at hb; first | (exfalso; omega) | skip) | skip)))); (all_goals (try (conv => whnf)))
  all_goals
    first
      | exact fin_pure rfl rfl
      | trace_state
set_option maxHeartbeats 1000000 in
set_option maxRecDepth 100000 in
theorem rewG_oth (o n : Int) (a b c k va vb vc : Nat) (is : List Bool) (v : List Nat) (ia ib ic : Bool) (hi : is.length = 16) (hv : v.length = 16) (hvr : ∀ y ∈ v, y < 4294967296) (ha : a < 16) (hb0 : b < 16) (hc : c < 16) (hk : k < 4294967296)
    (ga : is.getD a false = ia) (gb : is.getD b false = ib) (gc : is.getD c false = ic) (ua : v.getD a 0 = va) (ub : v.getD b 0 = vb) (uc : v.getD c 0 = vc) (la : va < 4294967296) (lb : vb < 4294967296) (lc : vc < 4294967296) (ho : ¬ (32 ≤ o ∧ o ≤ 36)) (ho2 : ¬ (40 ≤ o ∧ o ≤ 45)) (h : aluB o = false) :
    Fn Try.prog 62 [.agg (Mi.C ⟨o, a, b, c, k, n⟩), .agg (knC is v)] [] (· = ⟨.a (.agg (Mi.C (rewM ⟨o, a, b, c, k, n⟩ is v))), [], []⟩) := by
  have ra := rd_is is v a hi ha
  have rb := rd_is is v b hi hb0
  have rc := rd_is is v c hi hc
  have wa := rd_val is v a hi hv ha
  have wb := rd_val is v b hi hv hb0
  have wc := rd_val is v c hi hv hc
  rw [ga] at ra
  rw [gb] at rb
  rw [gc] at rc
  rw [ua] at wa
  rw [ub] at wb
  rw [uc] at wc
  have hsc := kn_known is v
  have e : rewM ⟨o, a, b, c, k, n⟩ is v = ⟨o, a, b, c, k, n⟩ := by
    unfold rewM
    simp only [ga, gb, gc, ua, ub, uc]
    rw [if_neg ho, if_neg ho2, if_pos h]
  rw [e]
  clear ga gb gc ua ub uc
  have har := arithG_fn o
  have h3 := threeG_fn o
  have him := immG_fn o
  rw [h] at har
  generalize knC is v = KN at *
  refine fn_of_vc mixed tys_ok _ _ Try.func62 (by kernel_rfl) rfl Try.ntmps62 (by rw [Try.results62]) rfl ?_; dsimp only [argTm, argHl, Nat.zero_add, Nat.reduceAdd, List.length_nil, List.length_cons]
  dsimp only [Mi.C]
  (repeat' ((conv => whnf); first | (apply Sd.mk; · exact hsc)  |  ((with_reducible apply Ge.mk (α := SV)); · with_reducible first | exact ra | exact rb | exact rc | exact wa | exact wb | exact wc)  |  (refine vcall_pure (f := 79) (har) rfl ?_)  |  (refine vcall_pure (f := 80) (h3) rfl ?_)  |  (refine vcall_pure (f := 82) (him) rfl ?_) | (with_reducible apply sd_draw; · kernel_rfl) | (apply Sd.mk; · exact aSd) | ((with_reducible apply Vl.mk (α := Int)); · exact aAr) | ((with_reducible first | apply Vl.mk (α := Bool) | apply Vl.mk (α := Nat) | apply Vl.mk (α := ByteArray) | apply Ge.mk (α := Row) | apply Ge.mk (α := SV) | apply Ge.mk (α := AV)); · exact rfl) | (refine And.intro rfl ?_) | ((with_reducible first | apply Vl.mk (α := List SV) | apply Vl.mk (α := Ef) | apply Vl.mk (α := TV) | apply Ge.mk (α := List SV) | apply Sg.mk | apply Sk.mk); · exact aCl) | ((first | apply Br.mk | apply Gd.mk) <;> (intro hb; first | exact aKl hb | (simp only [d1, d2, beq_iff_eq, bne_iff_ne, d3, d4, d5, d6, Int.not_lt, Int.not_le, ge_iff_le, gt_iff_lt, ne_eq, d7] at hb; first | (exfalso; omega) | skip) | skip)))); (all_goals (try (conv => whnf)))
  all_goals
    first
      | exact fin_pure rfl rfl
      | trace_state
end Go.Proofs.Ytcaddlighhiepaa

/- Folding one operation: rewrite of arithmetic; after (UNDER WAY). -/
namespace Go.Proofs.Ytcaddlighhiepaa
open Go Go.RowKit
set_option linter.unusedSimpArgs false
set_option linter.unusedVariables false

theorem alu_rng {o : Int} (h : aluB o = true) : (1 ≤ o ∧ o ≤ 13) ∨ (16 ≤ o ∧ o ≤ 23) := by
  have := of_decide_eq_true h
  omega
set_option maxHeartbeats 1000000 in
set_option maxRecDepth 100000 in
theorem rewG_k3 (o n : Int) (a b c k va vb vc : Nat) (is : List Bool) (v : List Nat) (ia ib ic : Bool) (hi : is.length = 16) (hv : v.length = 16) (hvr : ∀ y ∈ v, y < 4294967296) (ha : a < 16) (hb0 : b < 16) (hc : c < 16) (hk : k < 4294967296)
    (ga : is.getD a false = ia) (gb : is.getD b false = ib) (gc : is.getD c false = ic) (ua : v.getD a 0 = va) (ub : v.getD b 0 = vb) (uc : v.getD c 0 = vc) (la : va < 4294967296) (lb : vb < 4294967296) (lc : vc < 4294967296) (hB : aluB o = true) (ho : 1 ≤ o ∧ o ≤ 13) (h1 : ib = true) (h2 : ic = true) :
    Fn Try.prog 62 [.agg (Mi.C ⟨o, a, b, c, k, n⟩), .agg (knC is v)] [] (· = ⟨.a (.agg (Mi.C (rewM ⟨o, a, b, c, k, n⟩ is v))), [], []⟩) := by
  have ra := rd_is is v a hi ha
  have rb := rd_is is v b hi hb0
  have rc := rd_is is v c hi hc
  have wa := rd_val is v a hi hv ha
  have wb := rd_val is v b hi hv hb0
  have wc := rd_val is v c hi hv hc
  rw [ga] at ra
  rw [gb] at rb
  rw [gc] at rc
  rw [ua] at wa
  rw [ub] at wb
  rw [uc] at wc
  have hsc := kn_known is v
  have e : rewM ⟨o, a, b, c, k, n⟩ is v = ⟨24, a, 0, 0, aluN o vb vc, n⟩ := by
    unfold rewM
    simp only [ga, gb, gc, ua, ub, uc]
    rw [if_neg (by omega), if_neg (by omega), if_neg (by rw [hB]; simp), if_pos ⟨h1, .inr h2⟩, if_pos (show thrB o = true from decide_eq_true ho)]
  rw [e]
  clear ga gb gc ua ub uc
  have har := arithG_fn o
  have h3 := threeG_fn o
  have him := immG_fn o
  subst h1
  subst h2
  rw [show thrB o = true from decide_eq_true ho] at h3
  clear e
  have hal := alu_fn o vb vc lb lc
  rw [← aluN_cast o vb vc lb lc] at hal
  generalize aluN o vb vc = V at *
  rw [hB] at har hal
  generalize knC is v = KN at *
  refine fn_of_vc mixed tys_ok _ _ Try.func62 (by kernel_rfl) rfl Try.ntmps62 (by rw [Try.results62]) rfl ?_; dsimp only [argTm, argHl, Nat.zero_add, Nat.reduceAdd, List.length_nil, List.length_cons]
  dsimp only [Mi.C]
  (repeat' ((conv => whnf); first | (apply Sd.mk; · exact hsc)  |  ((with_reducible apply Ge.mk (α := SV)); · with_reducible first | exact ra | exact rb | exact rc | exact wa | exact wb | exact wc)  |  (refine vcall_pure (f := 79) (har) rfl ?_)  |  (refine vcall_pure (f := 80) (h3) rfl ?_)  |  (refine vcall_pure (f := 82) (him) rfl ?_)  |  (refine vcall_pure (f := 81) (hal) rfl ?_) | (with_reducible apply sd_draw; · kernel_rfl) | (apply Sd.mk; · exact aSd) | ((with_reducible apply Vl.mk (α := Int)); · exact aAr) | ((with_reducible first | apply Vl.mk (α := Bool) | apply Vl.mk (α := Nat) | apply Vl.mk (α := ByteArray) | apply Ge.mk (α := Row) | apply Ge.mk (α := SV) | apply Ge.mk (α := AV)); · exact rfl) | (refine And.intro rfl ?_) | ((with_reducible first | apply Vl.mk (α := List SV) | apply Vl.mk (α := Ef) | apply Vl.mk (α := TV) | apply Ge.mk (α := List SV) | apply Sg.mk | apply Sk.mk); · exact aCl) | ((first | apply Br.mk | apply Gd.mk) <;> (intro hb; first | exact aKl hb | (simp only [d1, d2, beq_iff_eq, bne_iff_ne, d3, d4, d5, d6, Int.not_lt, Int.not_le, ge_iff_le, gt_iff_lt, ne_eq, d7] at hb; first | (exfalso; omega) | skip) | skip)))); (all_goals (try (conv => whnf)))
  all_goals
    first
      | exact fin_pure rfl rfl
      | trace_state
set_option maxHeartbeats 1000000 in
set_option maxRecDepth 100000 in
theorem rewG_kI (o n : Int) (a b c k va vb vc : Nat) (is : List Bool) (v : List Nat) (ia ib ic : Bool) (hi : is.length = 16) (hv : v.length = 16) (hvr : ∀ y ∈ v, y < 4294967296) (ha : a < 16) (hb0 : b < 16) (hc : c < 16) (hk : k < 4294967296)
    (ga : is.getD a false = ia) (gb : is.getD b false = ib) (gc : is.getD c false = ic) (ua : v.getD a 0 = va) (ub : v.getD b 0 = vb) (uc : v.getD c 0 = vc) (la : va < 4294967296) (lb : vb < 4294967296) (lc : vc < 4294967296) (hB : aluB o = true) (ho : 16 ≤ o ∧ o ≤ 23) (h1 : ib = true) :
    Fn Try.prog 62 [.agg (Mi.C ⟨o, a, b, c, k, n⟩), .agg (knC is v)] [] (· = ⟨.a (.agg (Mi.C (rewM ⟨o, a, b, c, k, n⟩ is v))), [], []⟩) := by
  have ra := rd_is is v a hi ha
  have rb := rd_is is v b hi hb0
  have rc := rd_is is v c hi hc
  have wa := rd_val is v a hi hv ha
  have wb := rd_val is v b hi hv hb0
  have wc := rd_val is v c hi hv hc
  rw [ga] at ra
  rw [gb] at rb
  rw [gc] at rc
  rw [ua] at wa
  rw [ub] at wb
  rw [uc] at wc
  have hsc := kn_known is v
  have e : rewM ⟨o, a, b, c, k, n⟩ is v = ⟨24, a, 0, 0, aluN o vb k, n⟩ := by
    unfold rewM
    simp only [ga, gb, gc, ua, ub, uc]
    rw [if_neg (by omega), if_neg (by omega), if_neg (by rw [hB]; simp), if_pos ⟨h1, .inl (decide_eq_false (by omega))⟩, if_neg (by rw [show thrB o = false from decide_eq_false (by omega)]; simp)]
  rw [e]
  clear ga gb gc ua ub uc
  have har := arithG_fn o
  have h3 := threeG_fn o
  have him := immG_fn o
  subst h1
  rw [show thrB o = false from decide_eq_false (by omega)] at h3
  clear e
  have hal := alu_fn o vb k lb hk
  rw [← aluN_cast o vb k lb hk] at hal
  generalize aluN o vb k = V at *
  rw [hB] at har hal
  generalize knC is v = KN at *
  refine fn_of_vc mixed tys_ok _ _ Try.func62 (by kernel_rfl) rfl Try.ntmps62 (by rw [Try.results62]) rfl ?_; dsimp only [argTm, argHl, Nat.zero_add, Nat.reduceAdd, List.length_nil, List.length_cons]
  dsimp only [Mi.C]
  (repeat' ((conv => whnf); first | (apply Sd.mk; · exact hsc)  |  ((with_reducible apply Ge.mk (α := SV)); · with_reducible first | exact ra | exact rb | exact rc | exact wa | exact wb | exact wc)  |  (refine vcall_pure (f := 79) (har) rfl ?_)  |  (refine vcall_pure (f := 80) (h3) rfl ?_)  |  (refine vcall_pure (f := 82) (him) rfl ?_)  |  (refine vcall_pure (f := 81) (hal) rfl ?_) | (with_reducible apply sd_draw; · kernel_rfl) | (apply Sd.mk; · exact aSd) | ((with_reducible apply Vl.mk (α := Int)); · exact aAr) | ((with_reducible first | apply Vl.mk (α := Bool) | apply Vl.mk (α := Nat) | apply Vl.mk (α := ByteArray) | apply Ge.mk (α := Row) | apply Ge.mk (α := SV) | apply Ge.mk (α := AV)); · exact rfl) | (refine And.intro rfl ?_) | ((with_reducible first | apply Vl.mk (α := List SV) | apply Vl.mk (α := Ef) | apply Vl.mk (α := TV) | apply Ge.mk (α := List SV) | apply Sg.mk | apply Sk.mk); · exact aCl) | ((first | apply Br.mk | apply Gd.mk) <;> (intro hb; first | exact aKl hb | (simp only [d1, d2, beq_iff_eq, bne_iff_ne, d3, d4, d5, d6, Int.not_lt, Int.not_le, ge_iff_le, gt_iff_lt, ne_eq, d7] at hb; first | (exfalso; omega) | skip) | skip)))); (all_goals (try (conv => whnf)))
  all_goals
    first
      | exact fin_pure rfl rfl
      | trace_state
set_option maxHeartbeats 1000000 in
set_option maxRecDepth 100000 in
theorem rewG_nI (o n : Int) (a b c k va vb vc : Nat) (is : List Bool) (v : List Nat) (ia ib ic : Bool) (hi : is.length = 16) (hv : v.length = 16) (hvr : ∀ y ∈ v, y < 4294967296) (ha : a < 16) (hb0 : b < 16) (hc : c < 16) (hk : k < 4294967296)
    (ga : is.getD a false = ia) (gb : is.getD b false = ib) (gc : is.getD c false = ic) (ua : v.getD a 0 = va) (ub : v.getD b 0 = vb) (uc : v.getD c 0 = vc) (la : va < 4294967296) (lb : vb < 4294967296) (lc : vc < 4294967296) (hB : aluB o = true) (ho : 16 ≤ o ∧ o ≤ 23) (h1 : ib = false) :
    Fn Try.prog 62 [.agg (Mi.C ⟨o, a, b, c, k, n⟩), .agg (knC is v)] [] (· = ⟨.a (.agg (Mi.C (rewM ⟨o, a, b, c, k, n⟩ is v))), [], []⟩) := by
  have ra := rd_is is v a hi ha
  have rb := rd_is is v b hi hb0
  have rc := rd_is is v c hi hc
  have wa := rd_val is v a hi hv ha
  have wb := rd_val is v b hi hv hb0
  have wc := rd_val is v c hi hv hc
  rw [ga] at ra
  rw [gb] at rb
  rw [gc] at rc
  rw [ua] at wa
  rw [ub] at wb
  rw [uc] at wc
  have hsc := kn_known is v
  have e : rewM ⟨o, a, b, c, k, n⟩ is v = ⟨o, a, b, c, k, n⟩ := by
    unfold rewM
    simp only [ga, gb, gc, ua, ub, uc]
    rw [if_neg (by omega), if_neg (by omega), if_neg (by rw [hB]; simp), if_neg (by rintro ⟨h, _⟩; rw [h1] at h; cases h), if_neg (by rintro ⟨h, _⟩; apply h; unfold immV; rw [if_neg (by omega), if_neg (by omega), if_neg (by omega), if_neg (by omega), if_neg (by omega), if_neg (by omega), if_neg (by omega), if_neg (by omega)])]
  rw [e]
  clear ga gb gc ua ub uc
  have har := arithG_fn o
  have h3 := threeG_fn o
  have him := immG_fn o
  subst h1
  rw [show thrB o = false from decide_eq_false (by omega)] at h3
  rw [hB] at har
  rw [show immV o = 0 by unfold immV; rw [if_neg (by omega), if_neg (by omega), if_neg (by omega), if_neg (by omega), if_neg (by omega), if_neg (by omega), if_neg (by omega), if_neg (by omega)]] at him
  generalize knC is v = KN at *
  refine fn_of_vc mixed tys_ok _ _ Try.func62 (by kernel_rfl) rfl Try.ntmps62 (by rw [Try.results62]) rfl ?_; dsimp only [argTm, argHl, Nat.zero_add, Nat.reduceAdd, List.length_nil, List.length_cons]
  dsimp only [Mi.C]
  (repeat' ((conv => whnf); first | (apply Sd.mk; · exact hsc)  |  ((with_reducible apply Ge.mk (α := SV)); · with_reducible first | exact ra | exact rb | exact rc | exact wa | exact wb | exact wc)  |  (refine vcall_pure (f := 79) (har) rfl ?_)  |  (refine vcall_pure (f := 80) (h3) rfl ?_)  |  (refine vcall_pure (f := 82) (him) rfl ?_) | (with_reducible apply sd_draw; · kernel_rfl) | (apply Sd.mk; · exact aSd) | ((with_reducible apply Vl.mk (α := Int)); · exact aAr) | ((with_reducible first | apply Vl.mk (α := Bool) | apply Vl.mk (α := Nat) | apply Vl.mk (α := ByteArray) | apply Ge.mk (α := Row) | apply Ge.mk (α := SV) | apply Ge.mk (α := AV)); · exact rfl) | (refine And.intro rfl ?_) | ((with_reducible first | apply Vl.mk (α := List SV) | apply Vl.mk (α := Ef) | apply Vl.mk (α := TV) | apply Ge.mk (α := List SV) | apply Sg.mk | apply Sk.mk); · exact aCl) | ((first | apply Br.mk | apply Gd.mk) <;> (intro hb; first | exact aKl hb | (simp only [d1, d2, beq_iff_eq, bne_iff_ne, d3, d4, d5, d6, Int.not_lt, Int.not_le, ge_iff_le, gt_iff_lt, ne_eq, d7] at hb; first | (exfalso; omega) | skip) | skip)))); (all_goals (try (conv => whnf)))
  all_goals
    first
      | exact fin_pure rfl rfl
      | trace_state
set_option maxHeartbeats 1000000 in
set_option maxRecDepth 100000 in
theorem rewG_n3 (o n : Int) (a b c k va vb vc : Nat) (is : List Bool) (v : List Nat) (ia ib ic : Bool) (hi : is.length = 16) (hv : v.length = 16) (hvr : ∀ y ∈ v, y < 4294967296) (ha : a < 16) (hb0 : b < 16) (hc : c < 16) (hk : k < 4294967296)
    (ga : is.getD a false = ia) (gb : is.getD b false = ib) (gc : is.getD c false = ic) (ua : v.getD a 0 = va) (ub : v.getD b 0 = vb) (uc : v.getD c 0 = vc) (la : va < 4294967296) (lb : vb < 4294967296) (lc : vc < 4294967296) (hB : aluB o = true) (ho : 1 ≤ o ∧ o ≤ 13) (h2 : ic = false) :
    Fn Try.prog 62 [.agg (Mi.C ⟨o, a, b, c, k, n⟩), .agg (knC is v)] [] (· = ⟨.a (.agg (Mi.C (rewM ⟨o, a, b, c, k, n⟩ is v))), [], []⟩) := by
  have ra := rd_is is v a hi ha
  have rb := rd_is is v b hi hb0
  have rc := rd_is is v c hi hc
  have wa := rd_val is v a hi hv ha
  have wb := rd_val is v b hi hv hb0
  have wc := rd_val is v c hi hv hc
  rw [ga] at ra
  rw [gb] at rb
  rw [gc] at rc
  rw [ua] at wa
  rw [ub] at wb
  rw [uc] at wc
  have hsc := kn_known is v
  have e : rewM ⟨o, a, b, c, k, n⟩ is v = ⟨o, a, b, c, k, n⟩ := by
    unfold rewM
    simp only [ga, gb, gc, ua, ub, uc]
    rw [if_neg (by omega), if_neg (by omega), if_neg (by rw [hB]; simp), if_neg (by rintro ⟨_, h⟩; rw [show thrB o = true from decide_eq_true ho, h2] at h; simp at h), if_neg (by rintro ⟨_, h⟩; rw [h2] at h; cases h)]
  rw [e]
  clear ga gb gc ua ub uc
  have har := arithG_fn o
  have h3 := threeG_fn o
  have him := immG_fn o
  subst h2
  rw [show thrB o = true from decide_eq_true ho] at h3
  rw [hB] at har
  generalize immV o = I at *
  generalize knC is v = KN at *
  refine fn_of_vc mixed tys_ok _ _ Try.func62 (by kernel_rfl) rfl Try.ntmps62 (by rw [Try.results62]) rfl ?_; dsimp only [argTm, argHl, Nat.zero_add, Nat.reduceAdd, List.length_nil, List.length_cons]
  dsimp only [Mi.C]
  (repeat' ((conv => whnf); first | (apply Sd.mk; · exact hsc)  |  ((with_reducible apply Ge.mk (α := SV)); · with_reducible first | exact ra | exact rb | exact rc | exact wa | exact wb | exact wc)  |  (refine vcall_pure (f := 79) (har) rfl ?_)  |  (refine vcall_pure (f := 80) (h3) rfl ?_)  |  (refine vcall_pure (f := 82) (him) rfl ?_) | (with_reducible apply sd_draw; · kernel_rfl) | (apply Sd.mk; · exact aSd) | ((with_reducible apply Vl.mk (α := Int)); · exact aAr) | ((with_reducible first | apply Vl.mk (α := Bool) | apply Vl.mk (α := Nat) | apply Vl.mk (α := ByteArray) | apply Ge.mk (α := Row) | apply Ge.mk (α := SV) | apply Ge.mk (α := AV)); · exact rfl) | (refine And.intro rfl ?_) | ((with_reducible first | apply Vl.mk (α := List SV) | apply Vl.mk (α := Ef) | apply Vl.mk (α := TV) | apply Ge.mk (α := List SV) | apply Sg.mk | apply Sk.mk); · exact aCl) | ((first | apply Br.mk | apply Gd.mk) <;> (intro hb; first | exact aKl hb | (simp only [d1, d2, beq_iff_eq, bne_iff_ne, d3, d4, d5, d6, Int.not_lt, Int.not_le, ge_iff_le, gt_iff_lt, ne_eq, d7] at hb; first | (exfalso; omega) | skip) | skip)))); (all_goals (try (conv => whnf)))
  all_goals
    first
      | exact fin_pure rfl rfl
      | trace_state
set_option maxHeartbeats 1000000 in
set_option maxRecDepth 100000 in
theorem rewG_i3 (o n : Int) (a b c k va vb vc : Nat) (is : List Bool) (v : List Nat) (ia ib ic : Bool) (hi : is.length = 16) (hv : v.length = 16) (hvr : ∀ y ∈ v, y < 4294967296) (ha : a < 16) (hb0 : b < 16) (hc : c < 16) (hk : k < 4294967296)
    (ga : is.getD a false = ia) (gb : is.getD b false = ib) (gc : is.getD c false = ic) (ua : v.getD a 0 = va) (ub : v.getD b 0 = vb) (uc : v.getD c 0 = vc) (la : va < 4294967296) (lb : vb < 4294967296) (lc : vc < 4294967296) (hB : aluB o = true) (ho : 1 ≤ o ∧ o ≤ 13) (h1 : ib = false) (h2 : ic = true) (hI : immV o = 0) :
    Fn Try.prog 62 [.agg (Mi.C ⟨o, a, b, c, k, n⟩), .agg (knC is v)] [] (· = ⟨.a (.agg (Mi.C (rewM ⟨o, a, b, c, k, n⟩ is v))), [], []⟩) := by
  have ra := rd_is is v a hi ha
  have rb := rd_is is v b hi hb0
  have rc := rd_is is v c hi hc
  have wa := rd_val is v a hi hv ha
  have wb := rd_val is v b hi hv hb0
  have wc := rd_val is v c hi hv hc
  rw [ga] at ra
  rw [gb] at rb
  rw [gc] at rc
  rw [ua] at wa
  rw [ub] at wb
  rw [uc] at wc
  have hsc := kn_known is v
  have e : rewM ⟨o, a, b, c, k, n⟩ is v = ⟨o, a, b, c, k, n⟩ := by
    unfold rewM
    simp only [ga, gb, gc, ua, ub, uc]
    rw [if_neg (by omega), if_neg (by omega), if_neg (by rw [hB]; simp), if_neg (by rintro ⟨h, _⟩; rw [h1] at h; cases h), if_neg (by rintro ⟨h, _⟩; exact h hI)]
  rw [e]
  clear ga gb gc ua ub uc
  have har := arithG_fn o
  have h3 := threeG_fn o
  have him := immG_fn o
  subst h1
  subst h2
  rw [show thrB o = true from decide_eq_true ho] at h3
  rw [hB] at har
  rw [hI] at him
  generalize knC is v = KN at *
  refine fn_of_vc mixed tys_ok _ _ Try.func62 (by kernel_rfl) rfl Try.ntmps62 (by rw [Try.results62]) rfl ?_; dsimp only [argTm, argHl, Nat.zero_add, Nat.reduceAdd, List.length_nil, List.length_cons]
  dsimp only [Mi.C]
  (repeat' ((conv => whnf); first | (apply Sd.mk; · exact hsc)  |  ((with_reducible apply Ge.mk (α := SV)); · with_reducible first | exact ra | exact rb | exact rc | exact wa | exact wb | exact wc)  |  (refine vcall_pure (f := 79) (har) rfl ?_)  |  (refine vcall_pure (f := 80) (h3) rfl ?_)  |  (refine vcall_pure (f := 82) (him) rfl ?_) | (with_reducible apply sd_draw; · kernel_rfl) | (apply Sd.mk; · exact aSd) | ((with_reducible apply Vl.mk (α := Int)); · exact aAr) | ((with_reducible first | apply Vl.mk (α := Bool) | apply Vl.mk (α := Nat) | apply Vl.mk (α := ByteArray) | apply Ge.mk (α := Row) | apply Ge.mk (α := SV) | apply Ge.mk (α := AV)); · exact rfl) | (refine And.intro rfl ?_) | ((with_reducible first | apply Vl.mk (α := List SV) | apply Vl.mk (α := Ef) | apply Vl.mk (α := TV) | apply Ge.mk (α := List SV) | apply Sg.mk | apply Sk.mk); · exact aCl) | ((first | apply Br.mk | apply Gd.mk) <;> (intro hb; first | exact aKl hb | (simp only [d1, d2, beq_iff_eq, bne_iff_ne, d3, d4, d5, d6, Int.not_lt, Int.not_le, ge_iff_le, gt_iff_lt, ne_eq, d7] at hb; first | (exfalso; omega) | skip) | skip)))); (all_goals (try (conv => whnf)))
  all_goals
    first
      | exact fin_pure rfl rfl
      | trace_state
set_option maxHeartbeats 1000000 in
set_option maxRecDepth 100000 in
theorem rewG_j3 (o n : Int) (a b c k va vb vc : Nat) (is : List Bool) (v : List Nat) (ia ib ic : Bool) (hi : is.length = 16) (hv : v.length = 16) (hvr : ∀ y ∈ v, y < 4294967296) (ha : a < 16) (hb0 : b < 16) (hc : c < 16) (hk : k < 4294967296)
    (ga : is.getD a false = ia) (gb : is.getD b false = ib) (gc : is.getD c false = ic) (ua : v.getD a 0 = va) (ub : v.getD b 0 = vb) (uc : v.getD c 0 = vc) (la : va < 4294967296) (lb : vb < 4294967296) (lc : vc < 4294967296) (hB : aluB o = true) (ho : 1 ≤ o ∧ o ≤ 13) (h1 : ib = false) (h2 : ic = true) (hI : immV o ≠ 0) (h : o ≠ 2) :
    Fn Try.prog 62 [.agg (Mi.C ⟨o, a, b, c, k, n⟩), .agg (knC is v)] [] (· = ⟨.a (.agg (Mi.C (rewM ⟨o, a, b, c, k, n⟩ is v))), [], []⟩) := by
  have ra := rd_is is v a hi ha
  have rb := rd_is is v b hi hb0
  have rc := rd_is is v c hi hc
  have wa := rd_val is v a hi hv ha
  have wb := rd_val is v b hi hv hb0
  have wc := rd_val is v c hi hv hc
  rw [ga] at ra
  rw [gb] at rb
  rw [gc] at rc
  rw [ua] at wa
  rw [ub] at wb
  rw [uc] at wc
  have hsc := kn_known is v
  have e : rewM ⟨o, a, b, c, k, n⟩ is v = ⟨immV o, a, b, 0, vc, n⟩ := by
    unfold rewM
    simp only [ga, gb, gc, ua, ub, uc]
    rw [if_neg (by omega), if_neg (by omega), if_neg (by rw [hB]; simp), if_neg (by rintro ⟨h, _⟩; rw [h1] at h; cases h), if_pos ⟨hI, h2⟩, if_neg h]
  rw [e]
  clear ga gb gc ua ub uc
  have har := arithG_fn o
  have h3 := threeG_fn o
  have him := immG_fn o
  subst h1
  subst h2
  rw [show thrB o = true from decide_eq_true ho] at h3
  rw [hB] at har
  generalize immV o = I at *
  generalize knC is v = KN at *
  refine fn_of_vc mixed tys_ok _ _ Try.func62 (by kernel_rfl) rfl Try.ntmps62 (by rw [Try.results62]) rfl ?_; dsimp only [argTm, argHl, Nat.zero_add, Nat.reduceAdd, List.length_nil, List.length_cons]
  dsimp only [Mi.C]
  (repeat' ((conv => whnf); first | (apply Sd.mk; · exact hsc)  |  ((with_reducible apply Ge.mk (α := SV)); · with_reducible first | exact ra | exact rb | exact rc | exact wa | exact wb | exact wc)  |  (refine vcall_pure (f := 79) (har) rfl ?_)  |  (refine vcall_pure (f := 80) (h3) rfl ?_)  |  (refine vcall_pure (f := 82) (him) rfl ?_) | (with_reducible apply sd_draw; · kernel_rfl) | (apply Sd.mk; · exact aSd) | ((with_reducible apply Vl.mk (α := Int)); · exact aAr) | ((with_reducible first | apply Vl.mk (α := Bool) | apply Vl.mk (α := Nat) | apply Vl.mk (α := ByteArray) | apply Ge.mk (α := Row) | apply Ge.mk (α := SV) | apply Ge.mk (α := AV)); · exact rfl) | (refine And.intro rfl ?_) | ((with_reducible first | apply Vl.mk (α := List SV) | apply Vl.mk (α := Ef) | apply Vl.mk (α := TV) | apply Ge.mk (α := List SV) | apply Sg.mk | apply Sk.mk); · exact aCl) | ((first | apply Br.mk | apply Gd.mk) <;> (intro hb; first | exact aKl hb | (simp only [d1, d2, beq_iff_eq, bne_iff_ne, d3, d4, d5, d6, Int.not_lt, Int.not_le, ge_iff_le, gt_iff_lt, ne_eq, d7] at hb; first | (exfalso; omega) | skip) | skip)))); (all_goals (try (conv => whnf)))
  all_goals
    first
      | exact fin_pure rfl rfl
      | trace_state
set_option maxHeartbeats 1000000 in
set_option maxRecDepth 100000 in
theorem rewG_s3 (o n : Int) (a b c k va vb vc : Nat) (is : List Bool) (v : List Nat) (ia ib ic : Bool) (hi : is.length = 16) (hv : v.length = 16) (hvr : ∀ y ∈ v, y < 4294967296) (ha : a < 16) (hb0 : b < 16) (hc : c < 16) (hk : k < 4294967296)
    (ga : is.getD a false = ia) (gb : is.getD b false = ib) (gc : is.getD c false = ic) (ua : v.getD a 0 = va) (ub : v.getD b 0 = vb) (uc : v.getD c 0 = vc) (la : va < 4294967296) (lb : vb < 4294967296) (lc : vc < 4294967296) (hB : aluB o = true) (ho : o = 2) (h1 : ib = false) (h2 : ic = true) :
    Fn Try.prog 62 [.agg (Mi.C ⟨o, a, b, c, k, n⟩), .agg (knC is v)] [] (· = ⟨.a (.agg (Mi.C (rewM ⟨o, a, b, c, k, n⟩ is v))), [], []⟩) := by
  have ra := rd_is is v a hi ha
  have rb := rd_is is v b hi hb0
  have rc := rd_is is v c hi hc
  have wa := rd_val is v a hi hv ha
  have wb := rd_val is v b hi hv hb0
  have wc := rd_val is v c hi hv hc
  rw [ga] at ra
  rw [gb] at rb
  rw [gc] at rc
  rw [ua] at wa
  rw [ub] at wb
  rw [uc] at wc
  have hsc := kn_known is v
  have e : rewM ⟨o, a, b, c, k, n⟩ is v = ⟨16, a, b, 0, (4294967296 - vc) % 4294967296, n⟩ := by
    unfold rewM
    simp only [ga, gb, gc, ua, ub, uc]
    subst ho
    rw [if_neg (by omega), if_neg (by omega), if_neg (by rw [hB]; simp), if_neg (by rintro ⟨h, _⟩; rw [h1] at h; cases h), if_pos ⟨by decide, h2⟩, if_pos rfl]; rfl
  rw [e]
  clear ga gb gc ua ub uc
  have har := arithG_fn o
  have h3 := threeG_fn o
  have him := immG_fn o
  subst h1
  subst h2
  subst ho
  rw [hB] at har
  change Fn _ _ _ _ (· = ⟨.a (.s (.bool true)), _, _⟩) at h3
  change Fn _ _ _ _ (· = ⟨.a (.s (.int .i64 16)), _, _⟩) at him
  have q1 : IntKind.u32.wrap (0 - (vc : Int)) = (((4294967296 - vc) % 4294967296 : Nat) : Int) := by rw [wu32']; omega
  generalize knC is v = KN at *
  refine fn_of_vc mixed tys_ok _ _ Try.func62 (by kernel_rfl) rfl Try.ntmps62 (by rw [Try.results62]) rfl ?_; dsimp only [argTm, argHl, Nat.zero_add, Nat.reduceAdd, List.length_nil, List.length_cons]
  dsimp only [Mi.C]
  (repeat' ((conv => whnf); first | (apply Sd.mk; · exact hsc)  |  ((with_reducible apply Ge.mk (α := SV)); · with_reducible first | exact ra | exact rb | exact rc | exact wa | exact wb | exact wc)  |  ((with_reducible apply Vl.mk (α := Int)); · with_reducible exact q1)  |  (refine vcall_pure (f := 79) (har) rfl ?_)  |  (refine vcall_pure (f := 80) (h3) rfl ?_)  |  (refine vcall_pure (f := 82) (him) rfl ?_) | (with_reducible apply sd_draw; · kernel_rfl) | (apply Sd.mk; · exact aSd) | ((with_reducible apply Vl.mk (α := Int)); · exact aAr) | ((with_reducible first | apply Vl.mk (α := Bool) | apply Vl.mk (α := Nat) | apply Vl.mk (α := ByteArray) | apply Ge.mk (α := Row) | apply Ge.mk (α := SV) | apply Ge.mk (α := AV)); · exact rfl) | (refine And.intro rfl ?_) | ((with_reducible first | apply Vl.mk (α := List SV) | apply Vl.mk (α := Ef) | apply Vl.mk (α := TV) | apply Ge.mk (α := List SV) | apply Sg.mk | apply Sk.mk); · exact aCl) | ((first | apply Br.mk | apply Gd.mk) <;> (intro hb; first | exact aKl hb | (simp only [d1, d2, beq_iff_eq, bne_iff_ne, d3, d4, d5, d6, Int.not_lt, Int.not_le, ge_iff_le, gt_iff_lt, ne_eq, d7] at hb; first | (exfalso; omega) | skip) | skip)))); (all_goals (try (conv => whnf)))
  all_goals
    first
      | exact fin_pure rfl rfl
      | trace_state
end Go.Proofs.Ytcaddlighhiepaa

/- What is known behind an operation (general Fold, UNDER WAY). -/
namespace Go.Proofs.Ytcaddlighhiepaa
open Go Go.RowKit
set_option linter.unusedSimpArgs false
set_option linter.unusedVariables false

theorem kn_set_is (is : List Bool) (v : List Nat) (r : Nat) (x : Bool) (hi : is.length = 16) (hv : v.length = 16) (hr : r < 16) : setAll (knC is v) (0 + 0 + ((r : Nat) : Int).toNat * ty4.size) [.bool x] = knC (is.set r x) v := by
  have e : 0 + 0 + ((r : Nat) : Int).toNat * ty4.size = r := by show 0 + 0 + ((r : Nat) : Int).toNat * 1 = r; omega
  rw [e]
  apply List.ext_getElem?
  intro i
  rw [setAll_get _ _ _ _ (by unfold knC bsv; simp [hi, hv]; omega)]
  unfold knC bsv
  simp only [List.length_cons, List.length_nil, Nat.zero_add]
  by_cases h : i = r
  · subst h
    rw [if_pos (by omega), List.getElem?_append_left (by simp [hi, hr]), List.getElem?_map, List.getElem?_set_self (by omega)]
    simp
  · rw [if_neg (by omega)]
    by_cases h16 : i < 16
    · rw [List.getElem?_append_left (by simp [hi, h16]), List.getElem?_append_left (by simp [hi, h16]), List.getElem?_map, List.getElem?_map, List.getElem?_set_ne (by omega)]
    · rw [List.getElem?_append_right (by simp [hi]; omega), List.getElem?_append_right (by simp [hi]; omega)]
      simp
theorem kn_set_val (is : List Bool) (v : List Nat) (r w : Nat) (hi : is.length = 16) (hv : v.length = 16) (hr : r < 16) : setAll (knC is v) (0 + 16 + ((r : Nat) : Int).toNat * ty24.size) [.int .u32 w] = knC is (v.set r w) := by
  have e : 0 + 16 + ((r : Nat) : Int).toNat * ty24.size = 16 + r := by show 0 + 16 + ((r : Nat) : Int).toNat * 1 = _; omega
  rw [e]
  apply List.ext_getElem?
  intro i
  rw [setAll_get _ _ _ _ (by unfold knC bsv; simp [hi, hv]; omega)]
  unfold knC bsv wsv
  simp only [List.length_cons, List.length_nil, Nat.zero_add]
  by_cases h : i = 16 + r
  · subst h
    rw [if_pos (by omega), List.getElem?_append_right (by simp [hi]), List.getElem?_map]
    simp [hi, hv, hr]
  · rw [if_neg (by omega)]
    by_cases h16 : i < 16
    · rw [List.getElem?_append_left (by simp [hi, h16]), List.getElem?_append_left (by simp [hi, h16])]
    · rw [List.getElem?_append_right (by simp [hi]; omega), List.getElem?_append_right (by simp [hi]; omega), List.getElem?_map, List.getElem?_map, List.getElem?_set_ne (by simp [hi]; omega)]
/-- What is known behind an operation. -/
def aftI (o : Int) (a : Nat) (is : List Bool) : List Bool := if wrtB o = false ∨ a = 0 then is else is.set a (decide (o = 24))
def aftV (o : Int) (a k : Nat) (v : List Nat) : List Nat := if wrtB o = false ∨ a = 0 then v else v.set a (if o = 24 then k else 0)
theorem set_twice {α : Type} (l : List α) (i : Nat) (x y : α) : (l.set i x).set i y = l.set i y := List.set_set ..
set_option maxHeartbeats 1000000 in
set_option maxRecDepth 100000 in
theorem afterG_fn (o n : Int) (a b c k : Nat) (is : List Bool) (v : List Nat) (hi : is.length = 16) (hv : v.length = 16) (ha : a < 16) :
    Fn Try.prog 63 [.agg (knC is v), .agg (Mi.C ⟨o, a, b, c, k, n⟩)] [] (· = ⟨.a (.agg (knC (aftI o a is) (aftV o a k v))), [], []⟩) := by
  have hwr := writesG_fn o
  have hkn := kn_known is v
  have kl : ∀ (i' : List Bool) (v' : List Nat), i'.length = 16 → v'.length = 16 → (knC i' v').length = 32 := fun i' v' h1 h2 => by unfold knC bsv; simp [h1, h2]
  have ks : ∀ (i' : List Bool) (v' : List Nat), allScal (knC i' v') = true := fun i' v' => by
    unfold knC
    refine allScal_append ?_ (wsv_scal v')
    induction i' with
    | nil => rfl
    | cons x l ih => exact ih
  have hl := kl is v hi hv
  by_cases hc : wrtB o = false ∨ a = 0
  · have e1 : aftI o a is = is := if_pos hc
    have e2 : aftV o a k v = v := if_pos hc
    have hs := ks is v
    rw [e1, e2]
    generalize knC is v = KN at *
    have hsa : ∀ L : List SV, L.length = 32 → setAll L 0 KN = KN := fun L hL => setAll_all (by rw [hL, hl])
    rcases hc with hc | hc
    · rw [hc] at hwr
      refine fn_of_vc mixed tys_ok _ _ Try.func63 (by kernel_rfl) rfl Try.ntmps63 (by rw [Try.results63]) rfl ?_; dsimp only [argTm, argHl, Nat.zero_add, Nat.reduceAdd, List.length_nil, List.length_cons]
      dsimp only [Mi.C]
      (repeat' ((conv => whnf); first | (refine vcall_pure (f := 83) (hwr) rfl ?_)  |  (apply Sd.mk; · first | exact hkn | exact ⟨hl, hkn, rfl, by show 0 + KN.length ≤ 32; omega⟩)  |  ((with_reducible apply Vl.mk (α := List SV)); · (with_reducible refine hsa _ ?_); (focus exact rfl))  |  (apply Sg.mk; · exact sg_all KN hl) | (with_reducible apply sd_draw; · kernel_rfl) | (apply Sd.mk; · exact aSd) | ((with_reducible apply Vl.mk (α := Int)); · exact aAr) | ((with_reducible first | apply Vl.mk (α := Bool) | apply Vl.mk (α := Nat) | apply Vl.mk (α := ByteArray) | apply Ge.mk (α := Row) | apply Ge.mk (α := SV) | apply Ge.mk (α := AV)); · exact rfl) | (refine And.intro rfl ?_) | ((with_reducible first | apply Vl.mk (α := List SV) | apply Vl.mk (α := Ef) | apply Vl.mk (α := TV) | apply Ge.mk (α := List SV) | apply Sg.mk | apply Sk.mk); · exact aCl) | ((first | apply Br.mk | apply Gd.mk) <;> (intro hb; first | exact aKl hb | (simp only [d1, d2, beq_iff_eq, bne_iff_ne, d3, d4, d5, d6, Int.not_lt, Int.not_le, ge_iff_le, gt_iff_lt, ne_eq, d7] at hb; first | (exfalso; omega) | skip) | skip)))); (all_goals (try (conv => whnf)))
      all_goals first | exact fin_pure hs rfl | trace_state
    · subst hc
      generalize wrtB o = bw at *
      refine fn_of_vc mixed tys_ok _ _ Try.func63 (by kernel_rfl) rfl Try.ntmps63 (by rw [Try.results63]) rfl ?_; dsimp only [argTm, argHl, Nat.zero_add, Nat.reduceAdd, List.length_nil, List.length_cons]
      dsimp only [Mi.C]
      (repeat' ((conv => whnf); first | (refine vcall_pure (f := 83) (hwr) rfl ?_)  |  (apply Sd.mk; · first | exact hkn | exact ⟨hl, hkn, rfl, by show 0 + KN.length ≤ 32; omega⟩)  |  ((with_reducible apply Vl.mk (α := List SV)); · (with_reducible refine hsa _ ?_); (focus exact rfl))  |  (apply Sg.mk; · exact sg_all KN hl) | (with_reducible apply sd_draw; · kernel_rfl) | (apply Sd.mk; · exact aSd) | ((with_reducible apply Vl.mk (α := Int)); · exact aAr) | ((with_reducible first | apply Vl.mk (α := Bool) | apply Vl.mk (α := Nat) | apply Vl.mk (α := ByteArray) | apply Ge.mk (α := Row) | apply Ge.mk (α := SV) | apply Ge.mk (α := AV)); · exact rfl) | (refine And.intro rfl ?_) | ((with_reducible first | apply Vl.mk (α := List SV) | apply Vl.mk (α := Ef) | apply Vl.mk (α := TV) | apply Ge.mk (α := List SV) | apply Sg.mk | apply Sk.mk); · exact aCl) | ((first | apply Br.mk | apply Gd.mk) <;> (intro hb; first | exact aKl hb | (simp only [d1, d2, beq_iff_eq, bne_iff_ne, d3, d4, d5, d6, Int.not_lt, Int.not_le, ge_iff_le, gt_iff_lt, ne_eq, d7] at hb; first | (exfalso; omega) | skip) | skip)))); (all_goals (try (conv => whnf)))
      all_goals first | exact fin_pure hs rfl | trace_state
  · have hw1 : wrtB o = true := by
      cases e : wrtB o with
      | true => rfl
      | false => exact absurd (.inl e) hc
    have ha0 : a ≠ 0 := fun e => hc (.inr e)
    rw [hw1] at hwr
    have e1 : aftI o a is = is.set a (decide (o = 24)) := if_neg hc
    have e2 : aftV o a k v = v.set a (if o = 24 then k else 0) := if_neg hc
    rw [e1, e2]
    have s1 := kn_set_is is v a false hi hv ha
    have s2 := kn_set_val (is.set a false) v a 0 (by simpa using hi) hv ha
    have s3 := kn_set_is (is.set a false) (v.set a 0) a true (by simpa using hi) (by simpa using hv) ha
    have s4 := kn_set_val ((is.set a false).set a true) (v.set a 0) a k (by simpa using hi) (by simpa using hv) ha
    rw [set_twice] at s3 s4
    rw [set_twice] at s4
    have l1 := kl (is.set a false) v (by simpa using hi) hv
    have l2 := kl (is.set a false) (v.set a 0) (by simpa using hi) (by simpa using hv)
    have l3 := kl (is.set a true) (v.set a 0) (by simpa using hi) (by simpa using hv)
    have l4 := kl (is.set a true) (v.set a k) (by simpa using hi) (by simpa using hv)
    have z2 := ks (is.set a false) (v.set a 0)
    have z4 := ks (is.set a true) (v.set a k)
    have n2 := kn_known (is.set a false) (v.set a 0)
    have n4 := kn_known (is.set a true) (v.set a k)
    by_cases h24 : o = 24
    · rw [if_pos h24, decide_eq_true h24]
      generalize knC is v = KN at *
      generalize knC (is.set a false) v = K1 at *
      generalize knC (is.set a false) (v.set a 0) = K2 at *
      generalize knC (is.set a true) (v.set a 0) = K3 at *
      generalize knC (is.set a true) (v.set a k) = K4 at *
      have s1' : setAll KN (0 + 0 + ((a : Nat) : Int).toNat * ty4.size) [absS (Value.bool false)] = K1 := s1
      have s2' : setAll K1 (0 + 16 + ((a : Nat) : Int).toNat * ty24.size) [absS (Value.int IntKind.u32 0)] = K2 := s2
      have s3' : setAll K2 (0 + 0 + ((a : Nat) : Int).toNat * ty4.size) [absS (Value.bool true)] = K3 := s3
      have hsa : ∀ L : List SV, L.length = 32 → setAll L 0 K4 = K4 := fun L hL => setAll_all (by rw [hL, l4])
      refine fn_of_vc mixed tys_ok _ _ Try.func63 (by kernel_rfl) rfl Try.ntmps63 (by rw [Try.results63]) rfl ?_; dsimp only [argTm, argHl, Nat.zero_add, Nat.reduceAdd, List.length_nil, List.length_cons]
      dsimp only [Mi.C]
      (repeat' ((conv => whnf); first | (refine vcall_pure (f := 83) (hwr) rfl ?_)  |  (apply Sd.mk; · first | exact hkn | exact n4 | exact ⟨l4, n4, rfl, by show 0 + K4.length ≤ 32; omega⟩ | (refine ⟨rfl, rfl, rfl, ?_⟩; first | (show 0 + 0 + ((a : Nat) : Int).toNat * 1 + 1 ≤ KN.length; omega) | (show 0 + 16 + ((a : Nat) : Int).toNat * 1 + 1 ≤ K1.length; omega) | (show 0 + 0 + ((a : Nat) : Int).toNat * 1 + 1 ≤ K2.length; omega) | (show 0 + 16 + ((a : Nat) : Int).toNat * 1 + 1 ≤ K3.length; omega)))  |  ((with_reducible apply Vl.mk (α := List SV)); · first | (with_reducible first | exact s1' | exact s2' | exact s3' | exact s4) | ((with_reducible refine hsa _ ?_); (focus exact rfl)))  |  (apply Sg.mk; · exact sg_all K4 l4) | (with_reducible apply sd_draw; · kernel_rfl) | (apply Sd.mk; · exact aSd) | ((with_reducible apply Vl.mk (α := Int)); · exact aAr) | ((with_reducible first | apply Vl.mk (α := Bool) | apply Vl.mk (α := Nat) | apply Vl.mk (α := ByteArray) | apply Ge.mk (α := Row) | apply Ge.mk (α := SV) | apply Ge.mk (α := AV)); · exact rfl) | (refine And.intro rfl ?_) | ((with_reducible first | apply Vl.mk (α := List SV) | apply Vl.mk (α := Ef) | apply Vl.mk (α := TV) | apply Ge.mk (α := List SV) | apply Sg.mk | apply Sk.mk); · exact aCl) | ((first | apply Br.mk | apply Gd.mk) <;> (intro hb; first | exact aKl hb | (simp only [d1, d2, beq_iff_eq, bne_iff_ne, d3, d4, d5, d6, Int.not_lt, Int.not_le, ge_iff_le, gt_iff_lt, ne_eq, d7] at hb; first | (exfalso; omega) | skip) | skip)))); (all_goals (try (conv => whnf)))
      all_goals first | exact fin_pure z4 rfl | trace_state
    · rw [if_neg h24, decide_eq_false h24]
      generalize knC is v = KN at *
      generalize knC (is.set a false) v = K1 at *
      generalize knC (is.set a false) (v.set a 0) = K2 at *
      have s1' : setAll KN (0 + 0 + ((a : Nat) : Int).toNat * ty4.size) [absS (Value.bool false)] = K1 := s1
      have s2' : setAll K1 (0 + 16 + ((a : Nat) : Int).toNat * ty24.size) [absS (Value.int IntKind.u32 0)] = K2 := s2
      have hsa : ∀ L : List SV, L.length = 32 → setAll L 0 K2 = K2 := fun L hL => setAll_all (by rw [hL, l2])
      refine fn_of_vc mixed tys_ok _ _ Try.func63 (by kernel_rfl) rfl Try.ntmps63 (by rw [Try.results63]) rfl ?_; dsimp only [argTm, argHl, Nat.zero_add, Nat.reduceAdd, List.length_nil, List.length_cons]
      dsimp only [Mi.C]
      (repeat' ((conv => whnf); first | (refine vcall_pure (f := 83) (hwr) rfl ?_)  |  (apply Sd.mk; · first | exact hkn | exact n2 | exact ⟨l2, n2, rfl, by show 0 + K2.length ≤ 32; omega⟩ | (refine ⟨rfl, rfl, rfl, ?_⟩; first | (show 0 + 0 + ((a : Nat) : Int).toNat * 1 + 1 ≤ KN.length; omega) | (show 0 + 16 + ((a : Nat) : Int).toNat * 1 + 1 ≤ K1.length; omega)))  |  ((with_reducible apply Vl.mk (α := List SV)); · first | (with_reducible first | exact s1' | exact s2') | ((with_reducible refine hsa _ ?_); (focus exact rfl)))  |  (apply Sg.mk; · exact sg_all K2 l2) | (with_reducible apply sd_draw; · kernel_rfl) | (apply Sd.mk; · exact aSd) | ((with_reducible apply Vl.mk (α := Int)); · exact aAr) | ((with_reducible first | apply Vl.mk (α := Bool) | apply Vl.mk (α := Nat) | apply Vl.mk (α := ByteArray) | apply Ge.mk (α := Row) | apply Ge.mk (α := SV) | apply Ge.mk (α := AV)); · exact rfl) | (refine And.intro rfl ?_) | ((with_reducible first | apply Vl.mk (α := List SV) | apply Vl.mk (α := Ef) | apply Vl.mk (α := TV) | apply Ge.mk (α := List SV) | apply Sg.mk | apply Sk.mk); · exact aCl) | ((first | apply Br.mk | apply Gd.mk) <;> (intro hb; first | exact aKl hb | (simp only [d1, d2, beq_iff_eq, bne_iff_ne, d3, d4, d5, d6, Int.not_lt, Int.not_le, ge_iff_le, gt_iff_lt, ne_eq, d7] at hb; first | (exfalso; omega) | skip) | skip)))); (all_goals (try (conv => whnf)))
      all_goals first | exact fin_pure z2 rfl | trace_state
end Go.Proofs.Ytcaddlighhiepaa

/- rewrite, for any operation and any known registers. -/
namespace Go.Proofs.Ytcaddlighhiepaa
open Go Go.RowKit
set_option linter.unusedSimpArgs false
set_option linter.unusedVariables false

theorem getD_lt {v : List Nat} (h : ∀ y ∈ v, y < 4294967296) (j : Nat) : v.getD j 0 < 4294967296 := by
  by_cases hj : j < v.length
  · rw [List.getD_eq_getElem?_getD, List.getElem?_eq_getElem hj]; exact h _ (List.getElem_mem hj)
  · rw [List.getD_eq_getElem?_getD, List.getElem?_eq_none (by omega)]; simp
theorem rewG_fn (o n : Int) (a b c k : Nat) (is : List Bool) (v : List Nat) (hi : is.length = 16) (hv : v.length = 16) (hvr : ∀ y ∈ v, y < 4294967296) (ha : a < 16) (hb : b < 16) (hc : c < 16) (hk : k < 4294967296) :
    Fn Try.prog 62 [.agg (Mi.C ⟨o, a, b, c, k, n⟩), .agg (knC is v)] [] (· = ⟨.a (.agg (Mi.C (rewM ⟨o, a, b, c, k, n⟩ is v))), [], []⟩) := by
  have la := getD_lt hvr a
  have lb := getD_lt hvr b
  have lc := getD_lt hvr c
  by_cases h1 : 32 ≤ o ∧ o ≤ 36
  · cases h2 : is.getD b false with
    | true =>
      by_cases h3 : b = 0
      · exact rewG_memz o n a b c k _ _ _ is v _ _ _ hi hv hvr ha hb hc hk rfl h2 rfl rfl rfl rfl la lb lc h1 h3
      · exact rewG_mem1 o n a b c k _ _ _ is v _ _ _ hi hv hvr ha hb hc hk rfl h2 rfl rfl rfl rfl la lb lc h1 rfl h3
    | false => exact rewG_mem0 o n a b c k _ _ _ is v _ _ _ hi hv hvr ha hb hc hk rfl h2 rfl rfl rfl rfl la lb lc h1 rfl
  by_cases h2 : 40 ≤ o ∧ o ≤ 45
  · cases h3 : is.getD a false with
    | true =>
      cases h4 : is.getD b false with
      | true => exact rewG_br1 o n a b c k _ _ _ is v _ _ _ hi hv hvr ha hb hc hk h3 h4 rfl rfl rfl rfl la lb lc h2 rfl rfl _ rfl
      | false => exact rewG_brb o n a b c k _ _ _ is v _ _ _ hi hv hvr ha hb hc hk h3 h4 rfl rfl rfl rfl la lb lc h2 rfl rfl
    | false => exact rewG_bra o n a b c k _ _ _ is v _ _ _ hi hv hvr ha hb hc hk h3 rfl rfl rfl rfl rfl la lb lc h2 rfl
  cases hB : aluB o with
  | false => exact rewG_oth o n a b c k _ _ _ is v _ _ _ hi hv hvr ha hb hc hk rfl rfl rfl rfl rfl rfl la lb lc h1 h2 hB
  | true =>
    rcases alu_rng hB with h3 | h3
    · cases h4 : is.getD c false with
      | false => exact rewG_n3 o n a b c k _ _ _ is v _ _ _ hi hv hvr ha hb hc hk rfl rfl h4 rfl rfl rfl la lb lc hB h3 rfl
      | true =>
        cases h5 : is.getD b false with
        | true => exact rewG_k3 o n a b c k _ _ _ is v _ _ _ hi hv hvr ha hb hc hk rfl h5 h4 rfl rfl rfl la lb lc hB h3 rfl rfl
        | false =>
          by_cases h6 : immV o = 0
          · exact rewG_i3 o n a b c k _ _ _ is v _ _ _ hi hv hvr ha hb hc hk rfl h5 h4 rfl rfl rfl la lb lc hB h3 rfl rfl h6
          · by_cases h7 : o = 2
            · exact rewG_s3 o n a b c k _ _ _ is v _ _ _ hi hv hvr ha hb hc hk rfl h5 h4 rfl rfl rfl la lb lc hB h7 rfl rfl
            · exact rewG_j3 o n a b c k _ _ _ is v _ _ _ hi hv hvr ha hb hc hk rfl h5 h4 rfl rfl rfl la lb lc hB h3 rfl rfl h6 h7
    · cases h5 : is.getD b false with
      | true => exact rewG_kI o n a b c k _ _ _ is v _ _ _ hi hv hvr ha hb hc hk rfl h5 rfl rfl rfl rfl la lb lc hB h3 rfl
      | false => exact rewG_nI o n a b c k _ _ _ is v _ _ _ hi hv hvr ha hb hc hk rfl h5 rfl rfl rfl rfl la lb lc hB h3 rfl
end Go.Proofs.Ytcaddlighhiepaa

/- useless; rows of operations: reading and setting the j-th (general Fold, UNDER WAY). -/
namespace Go.Proofs.Ytcaddlighhiepaa
open Go Go.RowKit
set_option linter.unusedSimpArgs false
set_option linter.unusedVariables false

def useV (m m' : Mi) : Bool := if m.o = 24 then decide (m.a = 0 ∨ m'.o = 24 ∧ m'.a = m.a) else (decide (m.a = 0) && aluB m.o)
set_option maxHeartbeats 1000000 in
set_option maxRecDepth 100000 in
theorem uselessG_fn (o n o' n' : Int) (a b c k a' b' c' k' : Nat) : Fn Try.prog 84 [.agg (Mi.C ⟨o, a, b, c, k, n⟩), .agg (Mi.C ⟨o', a', b', c', k', n'⟩)] [] (· = ⟨.a (.s (.bool (useV ⟨o, a, b, c, k, n⟩ ⟨o', a', b', c', k', n'⟩))), [], []⟩) := by
  have har := arithG_fn o
  unfold useV
  dsimp only
  generalize aluB o = B at *
  refine fn_of_vc mixed tys_ok _ _ Try.func84 (by kernel_rfl) rfl Try.ntmps84 (by rw [Try.results84]) rfl ?_; dsimp only [argTm, argHl, Nat.zero_add, Nat.reduceAdd, List.length_nil, List.length_cons]
  dsimp only [Mi.C]
  (repeat' ((conv => whnf); first | (refine vcall_pure (f := 79) (har) rfl ?_) | (with_reducible apply sd_draw; · kernel_rfl) | (apply Sd.mk; · exact aSd) | ((with_reducible apply Vl.mk (α := Int)); · exact aAr) | ((with_reducible first | apply Vl.mk (α := Bool) | apply Vl.mk (α := Nat) | apply Vl.mk (α := ByteArray) | apply Ge.mk (α := Row) | apply Ge.mk (α := SV) | apply Ge.mk (α := AV)); · exact rfl) | (refine And.intro rfl ?_) | ((with_reducible first | apply Vl.mk (α := List SV) | apply Vl.mk (α := Ef) | apply Vl.mk (α := TV) | apply Ge.mk (α := List SV) | apply Sg.mk | apply Sk.mk); · exact aCl) | ((first | apply Br.mk | apply Gd.mk) <;> (intro hb; first | exact aKl hb | (simp only [d1, d2, beq_iff_eq, bne_iff_ne, d3, d4, d5, d6, Int.not_lt, Int.not_le, ge_iff_le, gt_iff_lt, ne_eq, d7] at hb; first | (exfalso; omega) | skip) | skip)))); (all_goals (try (conv => whnf)))
  all_goals
    apply fin_pure
    (focus rfl)
    simp only [mkRes]
    congr 3
    first
      | (rw [if_pos (by omega)]; rw [Bool.eq_iff_iff]; simp only [decide_eq_true_eq, beq_iff_eq, true_iff, false_iff, Bool.false_eq_true]; omega)
      | (rw [if_neg (by omega), decide_eq_true (by omega)]; rfl)
      | (rw [if_neg (by omega), decide_eq_false (by omega)]; rfl)
end Go.Proofs.Ytcaddlighhiepaa

/- merge (UNDER WAY). -/
namespace Go.Proofs.Ytcaddlighhiepaa
open Go Go.RowKit
set_option linter.unusedSimpArgs false
set_option linter.unusedVariables false

def mrg : List Mi → Int → List Mi
  | [], _ => []
  | [m], p => [{ m with n := m.n + p }]
  | m :: m' :: l, p => if useV m m' = true then mrg (m' :: l) (m.n + p) else { m with n := m.n + p } :: mrg (m' :: l) 0
def mst (N : Nat) (L : List SV) (i r : Nat) (p : Int) (R : List SV) : St :=
  ⟨[(0, .a (.s (.sl 0 0 N))), (3, .a (.s (.sl 1 0 r))), (4, .a (.s (.int .i64 p))), (7, .a (.s (.sl 0 0 N))), (8, .a (.s (.int .i64 N))), (9, .a (.s (.int .i64 i)))], [(0, some ⟨false, 6, L⟩), (1, some ⟨true, 6, R⟩)], [0]⟩
set_option maxHeartbeats 600000 in
set_option maxRecDepth 100000 in
theorem mergeG_fn (l : List Mi) (N : Nat) (hN : l.length = N) (hN2 : N ≤ 1000000) (hn : ∀ m ∈ l, 0 ≤ m.n ∧ m.n ≤ 1000000) (hne : 0 < (mrg l 0).length) :
    Fn Try.prog 64 [.s (.sl 0 0 N)] [⟨false, 6, mcs l⟩] (· = ⟨.a (.s (.sl 1 0 (mrg l 0).length)), [], [⟨true, 6, mcs (mrg l 0)⟩]⟩) := by
  have hsc := mcs_scal l
  have hLl := mcs_len l
  refine fn_of_vc mixed tys_ok _ _ Try.func64 (by kernel_rfl) rfl Try.ntmps64 (by rw [Try.results64]) rfl ?_; dsimp only [argTm, argHl, Nat.zero_add, Nat.reduceAdd, List.length_nil, List.length_cons]
  (repeat' ((conv => whnf); first | (with_reducible apply sd_draw; · kernel_rfl) | (apply Sd.mk; · exact aSd) | ((with_reducible apply Vl.mk (α := Int)); · exact aAr) | ((with_reducible first | apply Vl.mk (α := Bool) | apply Vl.mk (α := Nat) | apply Vl.mk (α := ByteArray) | apply Ge.mk (α := Row) | apply Ge.mk (α := SV) | apply Ge.mk (α := AV)); · exact rfl) | (refine And.intro rfl ?_) | ((with_reducible first | apply Vl.mk (α := List SV) | apply Vl.mk (α := Ef) | apply Vl.mk (α := TV) | apply Ge.mk (α := List SV) | apply Sg.mk | apply Sk.mk); · exact aCl) | ((first | apply Br.mk | apply Gd.mk) <;> (intro hb; first | exact aKl hb | (simp only [d1, d2, beq_iff_eq, bne_iff_ne, d3, d4, d5, d6, Int.not_lt, Int.not_le, ge_iff_le, gt_iff_lt, ne_eq, d7] at hb; first | (exfalso; omega) | skip) | skip)))); (all_goals (try (conv => whnf)))
  refine Lp.inv (fun mm σ => ∃ (i : Nat) (p : Int) (R : List Mi), mm + i = N ∧ 0 ≤ p ∧ p ≤ 1000000 * i ∧ R.length ≤ i ∧ R ++ mrg (l.drop i) p = mrg l 0 ∧ σ = mst N (mcs l) i R.length p (mcs R)) ?_ ?_
  · refine ⟨N, mst N (mcs l) 0 0 0 [], ?_, 0, 0, [], by omega, by omega, by omega, by simp, by simp, rfl⟩
    apply wk_of (m := [(0, some 0), (1, none)])
    · repeat' (first | exact tml_nil | apply tml_cons)
      all_goals first | exact tvm_a (avm_s (svm_same rfl)) | exact tvm_a (avm_s (svm_slnil rfl)) | exact tvm_a (avm_s (svm_sl rfl))
    · show HlS _ _ [] _
      refine hls_row (rowmt_mk rfl rfl rfl rfl (svsm_scal hsc)) ?_
      refine hls_row (rowmt_nil rfl rfl) ?_
      exact hls_nil
    · rfl
  · rintro mm σ ⟨i, p, R, hmi, hp0, hp1, hRl, hR, rfl⟩
    unfold mst
    by_cases hi : i < N
    · obtain ⟨⟨o, a, b, c, k, n⟩, hm⟩ : ∃ m, l[i]? = some m := ⟨l[i]'(by omega), List.getElem?_eq_getElem (by omega)⟩
      have hmn := hn _ (List.mem_of_getElem? hm)
      have seg := mcs_seg l i _ hm
      have q1 : IntKind.i64.wrap (n + p) = n + p := wi64 (by dsimp only at hmn; omega) (by dsimp only at hmn; omega)
      have q2 : IntKind.i64.wrap ((i : Int) + 1) = ((i + 1 : Nat) : Int) := by rw [wi64 (by omega) (by omega)]; omega
      have x1 : 0 + ((i : Nat) : Int).toNat * ty59.size = i * 6 := by show 0 + ((i : Nat) : Int).toNat * 6 = _; omega
      have hd : l.drop i = ⟨o, a, b, c, k, n⟩ :: l.drop (i + 1) := by
        have hlt := (List.getElem?_eq_some_iff.1 hm).1
        rw [List.drop_eq_getElem_cons hlt]
        congr 1
        exact (List.getElem?_eq_some_iff.1 hm).2
      dsimp only [Mi.C] at seg
      dsimp only at hmn
      have hRs := mcs_scal R
      have hRk := mcs_known R
      have hRl := mcs_len R
      have happ : mcs R ++ [.int .i64 o, .int .i64 a, .int .i64 b, .int .i64 c, .int .u32 k, .int .i64 (n + p)] = mcs (R ++ [⟨o, a, b, c, k, n + p⟩]) := by rw [mcs_app]; rfl
      have hRs2 := mcs_scal (R ++ [⟨o, a, b, c, k, n + p⟩])
      by_cases hi2 : i + 1 < N
      · obtain ⟨⟨o', a', b', c', k', n'⟩, hm'⟩ : ∃ m, l[i + 1]? = some m := ⟨l[i + 1]'(by omega), List.getElem?_eq_getElem (by omega)⟩
        have seg2 := mcs_seg l (i + 1) _ hm'
        dsimp only [Mi.C] at seg2
        have x2 : 0 + ((i + 1 : Nat) : Int).toNat * ty59.size = (i + 1) * 6 := by show 0 + ((i + 1 : Nat) : Int).toNat * 6 = _; omega
        have hd2 : l.drop (i + 1) = ⟨o', a', b', c', k', n'⟩ :: l.drop (i + 2) := by
          have hlt := (List.getElem?_eq_some_iff.1 hm').1
          rw [List.drop_eq_getElem_cons hlt]
          congr 1
          exact (List.getElem?_eq_some_iff.1 hm').2
        have hus := uselessG_fn o (n + p) o' n' a b c k a' b' c' k'
        dsimp only [Mi.C] at hus
        have hue : useV ⟨o, a, b, c, k, n + p⟩ ⟨o', a', b', c', k', n'⟩ = useV ⟨o, a, b, c, k, n⟩ ⟨o', a', b', c', k', n'⟩ := rfl
        rw [hue] at hus
        cases hu : useV ⟨o, a, b, c, k, n⟩ ⟨o', a', b', c', k', n'⟩ with
        | true =>
          rw [hu] at hus
          have hR2 : R ++ mrg (l.drop (i + 1)) (n + p) = mrg l 0 := by rw [← hR, hd, hd2, mrg, if_pos hu]
          clear hRk happ hRs2
          generalize hRR : mcs R = RR at *
          generalize mcs l = LL at *
          (repeat' ((conv => whnf); first | ((with_reducible apply Vl.mk (α := Int)); · with_reducible first | exact q1 | exact q2)  |  ((with_reducible apply Vl.mk (α := Nat)); · with_reducible first | exact x1 | exact x2)  |  (apply Sg.mk; · first | exact seg | exact seg2)  |  (refine vcall_pure (f := 84) (hus) rfl ?_) | (with_reducible apply sd_draw; · kernel_rfl) | (apply Sd.mk; · exact aSd) | ((with_reducible apply Vl.mk (α := Int)); · exact aAr) | ((with_reducible first | apply Vl.mk (α := Bool) | apply Vl.mk (α := Nat) | apply Vl.mk (α := ByteArray) | apply Ge.mk (α := Row) | apply Ge.mk (α := SV) | apply Ge.mk (α := AV)); · exact rfl) | (refine And.intro rfl ?_) | ((with_reducible first | apply Vl.mk (α := List SV) | apply Vl.mk (α := Ef) | apply Vl.mk (α := TV) | apply Ge.mk (α := List SV) | apply Sg.mk | apply Sk.mk); · exact aCl) | ((first | apply Br.mk | apply Gd.mk) <;> (intro hb; first | exact aKl hb | (simp only [d1, d2, beq_iff_eq, bne_iff_ne, d3, d4, d5, d6, Int.not_lt, Int.not_le, ge_iff_le, gt_iff_lt, ne_eq, d7] at hb; first | (exfalso; omega) | skip) | skip)))); (all_goals (try (conv => whnf)))
          refine ⟨mm - 1, mst N LL (i + 1) R.length (n + p) RR, by omega, ?_, i + 1, n + p, R, by omega, by omega, by omega, by omega, hR2, by rw [hRR]; rfl⟩
          apply wk_of (m := [(0, some 0), (1, some 1)])
          · repeat' (first | exact tml_nil | apply tml_cons)
            all_goals first | exact tvm_a (avm_s (svm_same rfl)) | exact tvm_a (avm_s (svm_sl rfl))
          · show HlS _ _ [] _
            refine hls_row (rowmt_mk rfl rfl rfl rfl (svsm_scal hsc)) ?_
            refine hls_row (rowmt_mk rfl rfl rfl rfl (svsm_scal hRs)) ?_
            exact hls_nil
          · rfl
        | false =>
          rw [hu] at hus
          have hR2 : (R ++ [⟨o, a, b, c, k, n + p⟩]) ++ mrg (l.drop (i + 1)) 0 = mrg l 0 := by
            rw [← hR, hd, hd2, mrg, if_neg (by rw [hu]; simp), List.append_assoc]; rfl
          generalize hR2d : R ++ [⟨o, a, b, c, k, n + p⟩] = R2 at *
          have hR2l : R2.length = R.length + 1 := by rw [← hR2d]; simp
          generalize hRR : mcs R = RR at *
          generalize hRR2 : mcs R2 = RR2 at *
          generalize mcs l = LL at *
          (repeat' ((conv => whnf); first | ((with_reducible apply Vl.mk (α := Int)); · with_reducible first | exact q1 | exact q2)  |  ((with_reducible apply Vl.mk (α := Nat)); · with_reducible first | exact x1 | exact x2)  |  (apply Sd.mk; · refine ⟨rfl, rfl, ?_, ?_, ?_⟩; (focus (show RR.length = R.length * 6; omega)); (focus (show (R.length + 1) * 48 ≤ _; omega)); (focus omega))  |  ((with_reducible apply Vl.mk (α := List SV)); · exact happ)  |  (apply Sg.mk; · first | exact seg | exact seg2)  |  (refine vcall_pure (f := 84) (hus) rfl ?_) | (with_reducible apply sd_draw; · kernel_rfl) | (apply Sd.mk; · exact aSd) | ((with_reducible apply Vl.mk (α := Int)); · exact aAr) | ((with_reducible first | apply Vl.mk (α := Bool) | apply Vl.mk (α := Nat) | apply Vl.mk (α := ByteArray) | apply Ge.mk (α := Row) | apply Ge.mk (α := SV) | apply Ge.mk (α := AV)); · exact rfl) | (refine And.intro rfl ?_) | ((with_reducible first | apply Vl.mk (α := List SV) | apply Vl.mk (α := Ef) | apply Vl.mk (α := TV) | apply Ge.mk (α := List SV) | apply Sg.mk | apply Sk.mk); · exact aCl) | ((first | apply Br.mk | apply Gd.mk) <;> (intro hb; first | exact aKl hb | (simp only [d1, d2, beq_iff_eq, bne_iff_ne, d3, d4, d5, d6, Int.not_lt, Int.not_le, ge_iff_le, gt_iff_lt, ne_eq, d7] at hb; first | (exfalso; omega) | skip) | skip)))); (all_goals (try (conv => whnf)))
          refine ⟨mm - 1, mst N LL (i + 1) (R.length + 1) 0 RR2, by omega, ?_, i + 1, 0, R2, by omega, by omega, by omega, by omega, hR2, by rw [hRR2, hR2l]; rfl⟩
          apply wk_of (m := [(0, some 0), (1, some 393408)])
          · repeat' (first | exact tml_nil | apply tml_cons)
            all_goals first | exact tvm_a (avm_s (svm_same rfl)) | exact tvm_a (avm_s (svm_sl rfl))
          · show HlS _ _ [] _
            refine hls_row (rowmt_mk rfl rfl rfl rfl (svsm_scal hsc)) ?_
            refine hls_row (rowmt_mk rfl rfl rfl rfl (svsm_scal hRs2)) ?_
            exact hls_nil
          · rfl
      · have hd3 : l.drop (i + 1) = [] := List.drop_eq_nil_of_le (by omega)
        have hR2 : (R ++ [⟨o, a, b, c, k, n + p⟩]) ++ mrg (l.drop (i + 1)) 0 = mrg l 0 := by
          rw [← hR, hd, hd3]
          show (R ++ _) ++ [] = R ++ _
          rw [List.append_nil]
          rfl
        generalize hR2d : R ++ [⟨o, a, b, c, k, n + p⟩] = R2 at *
        have hR2l : R2.length = R.length + 1 := by rw [← hR2d]; simp
        generalize hRR : mcs R = RR at *
        generalize hRR2 : mcs R2 = RR2 at *
        generalize mcs l = LL at *
        (repeat' ((conv => whnf); first | ((with_reducible apply Vl.mk (α := Int)); · with_reducible first | exact q1 | exact q2)  |  ((with_reducible apply Vl.mk (α := Nat)); · with_reducible exact x1)  |  (apply Sd.mk; · refine ⟨rfl, rfl, ?_, ?_, ?_⟩; (focus (show RR.length = R.length * 6; omega)); (focus (show (R.length + 1) * 48 ≤ _; omega)); (focus omega))  |  ((with_reducible apply Vl.mk (α := List SV)); · exact happ)  |  (apply Sg.mk; · exact seg) | (with_reducible apply sd_draw; · kernel_rfl) | (apply Sd.mk; · exact aSd) | ((with_reducible apply Vl.mk (α := Int)); · exact aAr) | ((with_reducible first | apply Vl.mk (α := Bool) | apply Vl.mk (α := Nat) | apply Vl.mk (α := ByteArray) | apply Ge.mk (α := Row) | apply Ge.mk (α := SV) | apply Ge.mk (α := AV)); · exact rfl) | (refine And.intro rfl ?_) | ((with_reducible first | apply Vl.mk (α := List SV) | apply Vl.mk (α := Ef) | apply Vl.mk (α := TV) | apply Ge.mk (α := List SV) | apply Sg.mk | apply Sk.mk); · exact aCl) | ((first | apply Br.mk | apply Gd.mk) <;> (intro hb; first | exact aKl hb | (simp only [d1, d2, beq_iff_eq, bne_iff_ne, d3, d4, d5, d6, Int.not_lt, Int.not_le, ge_iff_le, gt_iff_lt, ne_eq, d7] at hb; first | (exfalso; omega) | skip) | skip)))); (all_goals (try (conv => whnf)))
        all_goals first
          | (refine ⟨mm - 1, mst N LL (i + 1) (R.length + 1) 0 RR2, by omega, ?_, i + 1, 0, R2, by omega, by omega, by omega, by omega, hR2, by rw [hRR2, hR2l]; rfl⟩
             apply wk_of (m := [(0, some 0), (1, some 393408)])
             · repeat' (first | exact tml_nil | apply tml_cons)
               all_goals first | exact tvm_a (avm_s (svm_same rfl)) | exact tvm_a (avm_s (svm_sl rfl))
             · show HlS _ _ [] _
               refine hls_row (rowmt_mk rfl rfl rfl rfl (svsm_scal hsc)) ?_
               refine hls_row (rowmt_mk rfl rfl rfl rfl (svsm_scal hRs2)) ?_
               exact hls_nil
             · rfl)
          | trace_state
    · have hiN : i = N := by omega
      subst hiN
      have hRe : R = mrg l 0 := by rw [← hR, List.drop_eq_nil_of_le (by omega)]; show R = R ++ []; rw [List.append_nil]
      have hRs := mcs_scal R
      rw [← hRe]
      generalize mcs R = RR at *
      generalize mcs l = LL at *
      (repeat' ((conv => whnf); first | (with_reducible apply sd_draw; · kernel_rfl) | (apply Sd.mk; · exact aSd) | ((with_reducible apply Vl.mk (α := Int)); · exact aAr) | ((with_reducible first | apply Vl.mk (α := Bool) | apply Vl.mk (α := Nat) | apply Vl.mk (α := ByteArray) | apply Ge.mk (α := Row) | apply Ge.mk (α := SV) | apply Ge.mk (α := AV)); · exact rfl) | (refine And.intro rfl ?_) | ((with_reducible first | apply Vl.mk (α := List SV) | apply Vl.mk (α := Ef) | apply Vl.mk (α := TV) | apply Ge.mk (α := List SV) | apply Sg.mk | apply Sk.mk); · exact aCl) | ((first | apply Br.mk | apply Gd.mk) <;> (intro hb; first | exact aKl hb | (simp only [d1, d2, beq_iff_eq, bne_iff_ne, d3, d4, d5, d6, Int.not_lt, Int.not_le, ge_iff_le, gt_iff_lt, ne_eq, d7] at hb; first | (exfalso; omega) | skip) | skip)))); (all_goals (try (conv => whnf)))
      all_goals first | (apply Fin.mk (m := [(0, some 0), (1, some 1)]); (focus exact rfl); (all_goals ((try (show HlS _ _ [] _)); first | (exact aFi) | exact rfl))) | trace_state
end Go.Proofs.Ytcaddlighhiepaa

/- Fold of any block (UNDER WAY): the clone. -/
namespace Go.Proofs.Ytcaddlighhiepaa
open Go Go.RowKit
set_option linter.unusedSimpArgs false
set_option linter.unusedVariables false

set_option maxRecDepth 100000 in
theorem cloneG_fn (l : List Mi) (N : Nat) (hN : l.length = N) (hN2 : N ≤ 1000000) (h0 : 0 < N) : Fn Try.prog 55 [.s (.sl 0 0 N)] [⟨false, 6, mcs l⟩] (· = ⟨.a (.s (.sl 1 0 N)), [], [⟨true, 6, mcs l⟩]⟩) := by
  have hl := mcs_len l
  have hk := mcs_known l
  have hs := mcs_scal l
  generalize mcs l = M at *
  refine fn_of_vc mixed tys_ok _ _ Try.func55 (by kernel_rfl) rfl Try.ntmps55 (by rw [Try.results55]) rfl ?_; dsimp only [argTm, argHl, Nat.zero_add, Nat.reduceAdd, List.length_nil, List.length_cons]
  (repeat' ((conv => whnf); first | (refine Ns.any rfl ?_; intro bn hbn)  |  (apply Sk.mk; · exact sk_all M (by show M.length = N * 6; omega) hk)  |  (apply Sd.mk; · refine ⟨rfl, rfl, rfl, ?_, ?_⟩ <;> first | omega | (show (0 + N) * 48 ≤ _; omega))  |  ((with_reducible apply Vl.mk (α := Nat)); · exact Nat.zero_add N)  |  ((with_reducible apply Vl.mk (α := List SV)); · exact List.nil_append M) | (with_reducible apply sd_draw; · kernel_rfl) | (apply Sd.mk; · exact aSd) | ((with_reducible apply Vl.mk (α := Int)); · exact aAr) | ((with_reducible first | apply Vl.mk (α := Bool) | apply Vl.mk (α := Nat) | apply Vl.mk (α := ByteArray) | apply Ge.mk (α := Row) | apply Ge.mk (α := SV) | apply Ge.mk (α := AV)); · exact rfl) | (refine And.intro rfl ?_) | ((with_reducible first | apply Vl.mk (α := List SV) | apply Vl.mk (α := Ef) | apply Vl.mk (α := TV) | apply Ge.mk (α := List SV) | apply Sg.mk | apply Sk.mk); · exact aCl) | ((first | apply Br.mk | apply Gd.mk) <;> (intro hb; first | exact aKl hb | (simp only [d1, d2, beq_iff_eq, bne_iff_ne, d3, d4, d5, d6, Int.not_lt, Int.not_le, ge_iff_le, gt_iff_lt, ne_eq, d7] at hb; first | (exfalso; omega) | skip) | skip)))); (all_goals (try (conv => whnf)))
  · exfalso
    have := hbn hb
    omega
  · (apply Fin.mk (m := [(0, some 0), (1, some _)]); (focus exact rfl); (all_goals ((try (show HlS _ _ [] _)); first | (exact aFi) | exact rfl)))
/-- The rewritten operations. -/
def rwL : List Mi → List Bool → List Nat → List Mi
  | [], _, _ => []
  | m :: l, is, v => rewM m is v :: rwL l (aftI (rewM m is v).o (rewM m is v).a is) (aftV (rewM m is v).o (rewM m is v).a (rewM m is v).k v)
end Go.Proofs.Ytcaddlighhiepaa

/- Fold of any block that may be folded. -/
namespace Go.Proofs.Ytcaddlighhiepaa
open Go Go.RowKit
set_option linter.unusedSimpArgs false
set_option linter.unusedVariables false

theorem rewM_ok (m : Mi) (is : List Bool) (v : List Nat) (hvr : ∀ y ∈ v, y < 4294967296) (h : m.a < 16 ∧ m.b < 16 ∧ m.c < 16 ∧ m.k < 4294967296) : (rewM m is v).a < 16 ∧ (rewM m is v).b < 16 ∧ (rewM m is v).c < 16 ∧ (rewM m is v).k < 4294967296 ∧ (rewM m is v).n = m.n := by
  have g := getD_lt hvr
  have hal : ∀ o x y, x < 4294967296 → y < 4294967296 → aluN o x y < 4294967296 := fun o x y hx hy => by
    have h1 := aluN_cast o x y hx hy
    have h2 := aluV_rng o x y hx hy
    omega
  have gb := g m.b
  have gc := g m.c
  unfold rewM
  repeat' split
  all_goals
    refine ⟨?_, ?_, ?_, ?_, rfl⟩ <;> (try dsimp only) <;> first | omega | (apply hal <;> first | assumption | exact h.2.2.2) | (split <;> omega)
theorem aft_len (o : Int) (a k : Nat) (is : List Bool) (v : List Nat) : (aftI o a is).length = is.length ∧ (aftV o a k v).length = v.length := by
  unfold aftI aftV
  constructor <;> split <;> simp
theorem aft_rng (o : Int) (a k : Nat) (v : List Nat) (hk : k < 4294967296) (h : ∀ y ∈ v, y < 4294967296) : ∀ y ∈ aftV o a k v, y < 4294967296 := by
  intro y hy
  unfold aftV at hy
  split at hy
  · exact h y hy
  · rcases List.mem_or_eq_of_mem_set hy with h1 | h1
    · exact h y h1
    · subst h1; split <;> omega
theorem rewM_n (m : Mi) (is : List Bool) (v : List Nat) : (rewM m is v).n = m.n := by
  unfold rewM
  repeat' split
  all_goals rfl
theorem rwL_len : ∀ (l : List Mi) (is : List Bool) (v : List Nat), (rwL l is v).length = l.length
  | [], _, _ => rfl
  | m :: l, is, v => by unfold rwL; rw [List.length_cons, List.length_cons, rwL_len l]
theorem rwL_n : ∀ (l : List Mi) (is : List Bool) (v : List Nat) (m : Mi), m ∈ rwL l is v → ∃ m0 ∈ l, m.n = m0.n
  | [], _, _, m, h => by cases h
  | m0 :: l, is, v, m, h => by
    unfold rwL at h
    rcases List.mem_cons.1 h with h | h
    · subst h; exact ⟨m0, by simp, rewM_n m0 is v⟩
    · obtain ⟨q, h1, h2⟩ := rwL_n l _ _ m h
      exact ⟨q, by simp [h1], h2⟩
theorem mrg_pos : ∀ (l : List Mi) (p : Int), 0 < l.length → 0 < (mrg l p).length
  | [], _, h => by simp at h
  | [m], p, _ => by simp [mrg]
  | m :: m' :: l, p, _ => by
    unfold mrg
    split
    · exact mrg_pos (m' :: l) _ (by simp)
    · simp
def isb0 : List Bool := [true, false, false, false, false, false, false, false, false, false, false, false, false, false, false, false]
def val0 : List Nat := [0, 0, 0, 0, 0, 0, 0, 0, 0, 0, 0, 0, 0, 0, 0, 0]
def fst (N : Nat) (A : Nat) (L : Int) (LL : List SV) (i : Nat) (KN RW : List SV) : St :=
  ⟨[(1, .a (.s (.ptr 1 0))), (2, .a (.s (.ptr 2 0))), (3, .a (.s (.ptr 3 0))), (17, .a (.s (.sl 4 0 N))), (18, .a (.s (.int .i64 N))), (19, .a (.s (.int .i64 i)))],
   [(0, some ⟨false, 6, LL⟩), (1, some ⟨true, 1, [.int .u32 A, .int .i64 L, .sl 4 0 N]⟩), (2, some ⟨true, 1, [.int .u32 0, .int .i64 0, .nilsl]⟩), (3, some ⟨true, 1, KN⟩), (4, some ⟨true, 6, RW⟩)], [0]⟩
set_option maxHeartbeats 600000 in
set_option maxRecDepth 100000 in
theorem foldG_fn (A : Nat) (L : Int) (l : List Mi) (N : Nat) (hN : l.length = N) (hN2 : N ≤ 1000000) (h0 : 0 < N) (hok : ∀ m ∈ l, m.a < 16 ∧ m.b < 16 ∧ m.c < 16 ∧ m.k < 4294967296 ∧ 0 ≤ m.n ∧ m.n ≤ 1000000)
    (hmay : Fn Try.prog 36 [.agg [.int .u32 A, .int .i64 L, .sl 0 0 N]] [⟨false, 6, mcs l⟩] (· = ⟨.a (.s (.bool true)), [], []⟩)) :
    Fn Try.prog 43 [.agg [.int .u32 A, .int .i64 L, .sl 0 0 N]] [⟨false, 6, mcs l⟩] (· = ⟨.a (.agg [.int .u32 A, .int .i64 L, .sl 1 0 (mrg (rwL l isb0 val0) 0).length]), [], [⟨true, 6, mcs (mrg (rwL l isb0 val0) 0)⟩]⟩) := by
  have hcl := cloneG_fn l N hN hN2 h0
  have hsc := mcs_scal l
  have hLl := mcs_len l
  generalize hLL : mcs l = LL at *
  refine fn_of_vc mixed tys_ok _ _ Try.func43 (by kernel_rfl) rfl Try.ntmps43 (by rw [Try.results43]) rfl ?_; dsimp only [argTm, argHl, Nat.zero_add, Nat.reduceAdd, List.length_nil, List.length_cons]
  (repeat' ((conv => whnf); first | (refine vcall_det (f := 55) hcl [⟨0, 0⟩] [(0, ⟨false, 6, LL⟩)] rfl ⟨rfl, trivial⟩ ⟨rfl, rowM_ro hsc, trivial⟩ ⟨rfl, noUp⟩ ?_)  |  (refine vcall_det (f := 36) hmay [⟨_, 0⟩] [(_, ⟨true, 6, LL⟩)] rfl ⟨rfl, trivial⟩ ⟨rfl, rowM_ro hsc, trivial⟩ ⟨rfl, noUp⟩ ?_) | (with_reducible apply sd_draw; · kernel_rfl) | (apply Sd.mk; · exact aSd) | ((with_reducible apply Vl.mk (α := Int)); · exact aAr) | ((with_reducible first | apply Vl.mk (α := Bool) | apply Vl.mk (α := Nat) | apply Vl.mk (α := ByteArray) | apply Ge.mk (α := Row) | apply Ge.mk (α := SV) | apply Ge.mk (α := AV)); · exact rfl) | (refine And.intro rfl ?_) | ((with_reducible first | apply Vl.mk (α := List SV) | apply Vl.mk (α := Ef) | apply Vl.mk (α := TV) | apply Ge.mk (α := List SV) | apply Sg.mk | apply Sk.mk); · exact aCl) | ((first | apply Br.mk | apply Gd.mk) <;> (intro hb; first | exact aKl hb | (simp only [d1, d2, beq_iff_eq, bne_iff_ne, d3, d4, d5, d6, Int.not_lt, Int.not_le, ge_iff_le, gt_iff_lt, ne_eq, d7] at hb; first | (exfalso; omega) | skip) | skip)))); (all_goals (try (conv => whnf)))
  refine Lp.inv (fun mm σ => ∃ (i : Nat) (pre : List Mi) (is : List Bool) (v : List Nat), mm + i = N ∧ pre.length = i ∧ is.length = 16 ∧ v.length = 16 ∧ (∀ y ∈ v, y < 4294967296) ∧ pre ++ rwL (l.drop i) is v = rwL l isb0 val0 ∧ σ = fst N A L LL i (knC is v) (mcs (pre ++ l.drop i))) ?_ ?_
  · refine ⟨N, fst N A L LL 0 (knC isb0 val0) LL, ?_, 0, [], isb0, val0, by omega, rfl, rfl, rfl, by decide, rfl, by rw [← hLL]; rfl⟩
    apply wk_of (m := [(0, some 0), (1, some 65536), (2, some 65600), (3, some 262144), (4, some 131200)])
    · repeat' (first | exact tml_nil | apply tml_cons)
      all_goals first | exact tvm_a (avm_s (svm_same rfl)) | exact tvm_a (avm_s (svm_ptr rfl)) | exact tvm_a (avm_s (svm_sl rfl))
    · show HlS _ _ [] _
      refine hls_row (rowmt_mk rfl rfl rfl rfl (svsm_scal hsc)) ?_
      refine hls_row (rowmt_mk rfl rfl rfl rfl (.cons (svm_same rfl) (.cons (svm_same rfl) (.cons (svm_sl rfl) .nil)))) ?_
      refine hls_row (rowmt_mk rfl rfl rfl rfl (svsm_scal rfl)) ?_
      refine hls_row (rowmt_mk rfl rfl rfl rfl (svsm_scal rfl)) ?_
      refine hls_row (rowmt_mk rfl rfl rfl rfl (svsm_scal hsc)) ?_
      exact hls_nil
    · rfl
  · rintro mm σ ⟨i, pre, is, v, hmi, hpl, hi, hv, hvr, hinv, rfl⟩
    unfold fst
    by_cases hiN : i < N
    · obtain ⟨⟨o, a, b, c, k, n⟩, hm⟩ : ∃ m, l[i]? = some m := ⟨l[i]'(by omega), List.getElem?_eq_getElem (by omega)⟩
      have hmok := hok _ (List.mem_of_getElem? hm)
      have hd : l.drop i = ⟨o, a, b, c, k, n⟩ :: l.drop (i + 1) := by
        have hlt := (List.getElem?_eq_some_iff.1 hm).1
        rw [List.drop_eq_getElem_cons hlt]
        congr 1
        exact (List.getElem?_eq_some_iff.1 hm).2
      dsimp only at hmok
      have hrw := rewG_fn o n a b c k is v hi hv hvr hmok.1 hmok.2.1 hmok.2.2.1 hmok.2.2.2.1
      have hrok := rewM_ok ⟨o, a, b, c, k, n⟩ is v hvr ⟨hmok.1, hmok.2.1, hmok.2.2.1, hmok.2.2.2.1⟩
      have hstep : rwL (l.drop i) is v = rewM ⟨o, a, b, c, k, n⟩ is v :: rwL (l.drop (i + 1)) (aftI (rewM ⟨o, a, b, c, k, n⟩ is v).o (rewM ⟨o, a, b, c, k, n⟩ is v).a is) (aftV (rewM ⟨o, a, b, c, k, n⟩ is v).o (rewM ⟨o, a, b, c, k, n⟩ is v).a (rewM ⟨o, a, b, c, k, n⟩ is v).k v) := by rw [hd]; rfl
      obtain ⟨⟨o2, a2, b2, c2, k2, n2⟩, hm2⟩ : ∃ m2, rewM ⟨o, a, b, c, k, n⟩ is v = m2 := ⟨_, rfl⟩
      rw [hm2] at hrw hrok hstep
      dsimp only at hrok hstep
      have haf := afterG_fn o2 n2 a2 b2 c2 k2 is v hi hv hrok.1
      have hal := aft_len o2 a2 k2 is v
      have har := aft_rng o2 a2 k2 v hrok.2.2.2.1 hvr
      have seg := mcs_seg (pre ++ l.drop i) i ⟨o, a, b, c, k, n⟩ (by rw [List.getElem?_append_right (by omega), hpl, Nat.sub_self, hd]; rfl)
      have hset := mcs_set (pre ++ l.drop i) i ⟨o2, a2, b2, c2, k2, n2⟩ (by rw [List.length_append, hd]; simp; omega)
      have hre : (pre ++ l.drop i).set i ⟨o2, a2, b2, c2, k2, n2⟩ = (pre ++ [⟨o2, a2, b2, c2, k2, n2⟩]) ++ l.drop (i + 1) := by
        rw [List.set_append_right _ _ (by omega), hpl, Nat.sub_self, hd]; simp
      rw [hre] at hset
      have seg2 := mcs_seg ((pre ++ [⟨o2, a2, b2, c2, k2, n2⟩]) ++ l.drop (i + 1)) i ⟨o2, a2, b2, c2, k2, n2⟩ (by rw [List.append_assoc, List.getElem?_append_right (by omega), hpl, Nat.sub_self]; rfl)
      have hRs := mcs_scal (pre ++ l.drop i)
      have hRs2 := mcs_scal ((pre ++ [⟨o2, a2, b2, c2, k2, n2⟩]) ++ l.drop (i + 1))
      have hRl : (mcs (pre ++ l.drop i)).length = N * 6 := by
        rw [mcs_len, List.length_append, List.length_drop, hpl]; omega
      have hinv2 : (pre ++ [⟨o2, a2, b2, c2, k2, n2⟩]) ++ rwL (l.drop (i + 1)) (aftI o2 a2 is) (aftV o2 a2 k2 v) = rwL l isb0 val0 := by rw [← hinv, hstep, List.append_assoc]; rfl
      have kl : (knC is v).length = 32 := by unfold knC bsv; simp [hi, hv]
      have kl2 : (knC (aftI o2 a2 is) (aftV o2 a2 k2 v)).length = 32 := by unfold knC bsv; simp [hal, hi, hv]
      have kk := kn_known (aftI o2 a2 is) (aftV o2 a2 k2 v)
      have hsa : setAll (knC is v) 0 (knC (aftI o2 a2 is) (aftV o2 a2 k2 v)) = knC (aftI o2 a2 is) (aftV o2 a2 k2 v) := setAll_all (by rw [kl, kl2])
      have q2 : IntKind.i64.wrap ((i : Int) + 1) = ((i + 1 : Nat) : Int) := by rw [wi64 (by omega) (by omega)]; omega
      have x1 : 0 + ((i : Nat) : Int).toNat * ty59.size = i * 6 := by show 0 + ((i : Nat) : Int).toNat * 6 = _; omega
      have ksc : ∀ (i' : List Bool) (v' : List Nat), allScal (knC i' v') = true := fun i' v' => by
        unfold knC
        refine allScal_append ?_ (wsv_scal v')
        induction i' with
        | nil => rfl
        | cons x l ih => exact ih
      have ks1 := ksc is v
      have ks2 := ksc (aftI o2 a2 is) (aftV o2 a2 k2 v)
      dsimp only [Mi.C] at seg seg2 hset hrw haf
      generalize hK1 : knC is v = KN at *
      generalize hK2 : knC (aftI o2 a2 is) (aftV o2 a2 k2 v) = KN2 at *
      generalize hR1 : mcs (pre ++ l.drop i) = RW at *
      generalize hR2 : mcs ((pre ++ [⟨o2, a2, b2, c2, k2, n2⟩]) ++ l.drop (i + 1)) = RW2 at *
      clear hcl hmay
      (repeat' ((conv => whnf); first | ((with_reducible apply Vl.mk (α := Int)); · with_reducible exact q2)  |  ((with_reducible apply Vl.mk (α := Nat)); · with_reducible exact x1)  |  (refine vcall_pure (f := 62) hrw (by simp [renA, renS, ren_scal ks1, capA]) ?_)  |  (refine vcall_pure (f := 63) haf (by simp [renA, renS, ren_scal ks1, capA]) ?_)  |  (apply Sd.mk; · first | exact ⟨kl2, kk, rfl, by show 0 + KN2.length ≤ KN.length; omega⟩ | (refine ⟨rfl, rfl, rfl, ?_⟩; show i * 6 + 6 ≤ RW.length; omega))  |  ((with_reducible apply Vl.mk (α := List SV)); · with_reducible first | exact hsa | exact hset)  |  (apply Sg.mk; · first | exact seg | exact seg2 | exact sg_all KN kl) | (with_reducible apply sd_draw; · kernel_rfl) | (apply Sd.mk; · exact aSd) | ((with_reducible apply Vl.mk (α := Int)); · exact aAr) | ((with_reducible first | apply Vl.mk (α := Bool) | apply Vl.mk (α := Nat) | apply Vl.mk (α := ByteArray) | apply Ge.mk (α := Row) | apply Ge.mk (α := SV) | apply Ge.mk (α := AV)); · exact rfl) | (refine And.intro rfl ?_) | ((with_reducible first | apply Vl.mk (α := List SV) | apply Vl.mk (α := Ef) | apply Vl.mk (α := TV) | apply Ge.mk (α := List SV) | apply Sg.mk | apply Sk.mk); · exact aCl) | ((first | apply Br.mk | apply Gd.mk) <;> (intro hb; first | exact aKl hb | (simp only [d1, d2, beq_iff_eq, bne_iff_ne, d3, d4, d5, d6, Int.not_lt, Int.not_le, ge_iff_le, gt_iff_lt, ne_eq, d7] at hb; first | (exfalso; omega) | skip) | skip)))); (all_goals (try (conv => whnf)))
      all_goals first
        | (refine ⟨mm - 1, fst N A L LL (i + 1) KN2 RW2, by omega, ?_, i + 1, pre ++ [⟨o2, a2, b2, c2, k2, n2⟩], aftI o2 a2 is, aftV o2 a2 k2 v, by omega, by simp; omega, by omega, by omega, har, hinv2, by rw [hK2, hR2]; rfl⟩
           apply wk_of (m := [(0, some 0), (1, some 1), (2, some 2), (3, some 3), (4, some 4)])
           · repeat' (first | exact tml_nil | apply tml_cons)
             all_goals first | exact tvm_a (avm_s (svm_same rfl)) | exact tvm_a (avm_s (svm_ptr rfl)) | exact tvm_a (avm_s (svm_sl rfl))
           · show HlS _ _ [] _
             refine hls_row (rowmt_mk rfl rfl rfl rfl (svsm_scal hsc)) ?_
             refine hls_row (rowmt_mk rfl rfl rfl rfl (.cons (svm_same rfl) (.cons (svm_same rfl) (.cons (svm_sl rfl) .nil)))) ?_
             refine hls_row (rowmt_mk rfl rfl rfl rfl (svsm_scal rfl)) ?_
             refine hls_row (rowmt_mk rfl rfl rfl rfl (svsm_scal ks2)) ?_
             refine hls_row (rowmt_mk rfl rfl rfl rfl (svsm_scal hRs2)) ?_
             exact hls_nil
           · rfl)
        | trace_state
    · have hiN2 : i = N := by omega
      subst hiN2
      have hdn : l.drop i = [] := List.drop_eq_nil_of_le (by omega)
      have hpre : pre = rwL l isb0 val0 := by rw [← hinv, hdn]; show pre = pre ++ []; rw [List.append_nil]
      rw [hdn, List.append_nil]
      have hmg := mergeG_fn pre i hpl hN2 (fun m hm => by
        rw [hpre] at hm
        obtain ⟨q, h1, h2⟩ := rwL_n l _ _ m hm
        have := hok q h1
        omega) (mrg_pos pre 0 (by omega))
      have hps := mcs_scal pre
      have hms := mcs_scal (mrg pre 0)
      have ks1 : allScal (knC is v) = true := by
        unfold knC
        refine allScal_append ?_ (wsv_scal v)
        clear hinv hi
        induction is with
        | nil => rfl
        | cons x l ih => exact ih
      rw [← hpre]
      generalize knC is v = KN at *
      generalize mcs pre = RW at *
      generalize mcs (mrg pre 0) = RM at *
      clear hcl hmay
      (repeat' ((conv => whnf); first | (refine vcall_det (f := 64) hmg [⟨4, 0⟩] [(4, ⟨true, 6, RW⟩)] rfl ⟨rfl, trivial⟩ ⟨rfl, rowM_ro hps, trivial⟩ ⟨rfl, noUp⟩ ?_) | (with_reducible apply sd_draw; · kernel_rfl) | (apply Sd.mk; · exact aSd) | ((with_reducible apply Vl.mk (α := Int)); · exact aAr) | ((with_reducible first | apply Vl.mk (α := Bool) | apply Vl.mk (α := Nat) | apply Vl.mk (α := ByteArray) | apply Ge.mk (α := Row) | apply Ge.mk (α := SV) | apply Ge.mk (α := AV)); · exact rfl) | (refine And.intro rfl ?_) | ((with_reducible first | apply Vl.mk (α := List SV) | apply Vl.mk (α := Ef) | apply Vl.mk (α := TV) | apply Ge.mk (α := List SV) | apply Sg.mk | apply Sk.mk); · exact aCl) | ((first | apply Br.mk | apply Gd.mk) <;> (intro hb; first | exact aKl hb | (simp only [d1, d2, beq_iff_eq, bne_iff_ne, d3, d4, d5, d6, Int.not_lt, Int.not_le, ge_iff_le, gt_iff_lt, ne_eq, d7] at hb; first | (exfalso; omega) | skip) | skip)))); (all_goals (try (conv => whnf)))
      all_goals first | (apply Fin.mk (m := [(0, some 0), (1, some _)]); (focus exact rfl); (all_goals ((try (show HlS _ _ [] _)); first | (exact aFi) | exact rfl))) | trace_state
end Go.Proofs.Ytcaddlighhiepaa
