import Derived.Test.YtcaddlighhiepaaBlkR
import Derived.Test.YtcaddlighhiepaaFrmA
import Derived.Test.YtcaddlighhiepaaMiA
import Derived.Test.YtcaddlighhiepaaFns
/- Names of operations; the reference's Ends. -/
namespace Go.Proofs.Ytcaddlighhiepaa
open Go Go.RowKit
set_option linter.unusedSimpArgs false
set_option linter.unusedVariables false

theorem valid0 (o : Int) : validB o 0 0 0 0 = useOk o := by
  have h1 : regB 0 (useA o) = true := by cases useA o <;> rfl
  have h2 : regB 0 (useB o) = true := by cases useB o <;> rfl
  have h3 : regB 0 (useC o) = true := by cases useC o <;> rfl
  have h4 : (0 : Int) ≥ useLo o := by unfold useLo; split <;> omega
  have h5 : (0 : Int) ≤ useHi o := by unfold useHi; repeat' split
                                      all_goals omega
  unfold validB
  rw [h1, h2, h3, decide_eq_true h4, decide_eq_true h5]
  simp
theorem validO_fn (o : Int) : Fn Try.prog 57 [.agg (iv o 0 0 0 0)] [] (· = ⟨.a (.s (.bool (useOk o))), [], []⟩) := by
  rw [← valid0 o]; exact valid_fn o 0 0 0 0
theorem useOk_iff (o : Int) : useOk o = decide (1 ≤ o ∧ o ≤ 13 ∨ 16 ≤ o ∧ o ≤ 24 ∨ 32 ≤ o ∧ o ≤ 36 ∨ 40 ≤ o ∧ o ≤ 45 ∨ o = 48 ∨ o = 49 ∨ 56 ≤ o ∧ o ≤ 64) := by
  unfold useOk useA
  rw [Bool.eq_iff_iff]
  simp only [Bool.or_eq_true, decide_eq_true_eq]
  omega
theorem formV_pos (o : Int) : (formV o > 0) ↔ useOk o = true := by
  rw [useOk_iff, decide_eq_true_eq]
  unfold formV
  repeat' split
  all_goals omega
set_option maxRecDepth 100000 in
theorem rends_fn (o : Int) : Fn Try.prog 31 [.s (.int .i64 o)] [] (· = ⟨.a (.s (.bool (endsB o))), [], []⟩) := by
  have hf := form_fn o
  have hp := formV_pos o
  rw [useOk_iff, decide_eq_true_eq] at hp
  unfold endsB
  generalize formV o = f at *
  refine fn_of_vc mixed tys_ok _ _ Try.func31 (by kernel_rfl) rfl Try.ntmps31 (by rw [Try.results31]) rfl ?_; dsimp only [argTm, argHl, Nat.zero_add, Nat.reduceAdd, List.length_nil, List.length_cons]
  (repeat' ((conv => whnf); first | (refine vcall_pure (f := 53) (hf) rfl ?_) | (with_reducible apply sd_draw; · kernel_rfl) | (apply Sd.mk; · exact aSd) | ((with_reducible apply Vl.mk (α := Int)); · exact aAr) | ((with_reducible first | apply Vl.mk (α := Bool) | apply Vl.mk (α := Nat) | apply Vl.mk (α := ByteArray) | apply Ge.mk (α := Row) | apply Ge.mk (α := SV) | apply Ge.mk (α := AV)); · exact rfl) | (refine And.intro rfl ?_) | ((with_reducible first | apply Vl.mk (α := List SV) | apply Vl.mk (α := Ef) | apply Vl.mk (α := TV) | apply Ge.mk (α := List SV) | apply Sg.mk | apply Sk.mk); · exact aCl) | ((first | apply Br.mk | apply Gd.mk) <;> (intro hb; first | exact aKl hb | (simp only [d1, d2, beq_iff_eq, bne_iff_ne, d3, d4, d5, d6, Int.not_lt, Int.not_le, ge_iff_le, gt_iff_lt, ne_eq, d7] at hb; first | (exfalso; omega) | skip) | skip)))); (all_goals (try (conv => whnf)))
  all_goals
    apply fin_pure
    (focus rfl)
    simp only [mkRes]
    congr 3
    first
      | (refine (decide_eq_true ?_).symm; omega)
      | (refine (decide_eq_false ?_).symm; omega)
      | (rw [Bool.eq_iff_iff]; simp only [decide_eq_true_eq]; omega)
def mnL (o : Int) : List (List UInt8) :=
  if o ≤ 13 then [[97, 100, 100], [115, 117, 98], [97, 110, 100], [111, 114], [120, 111, 114], [115, 104, 108], [115, 104, 114], [115, 97, 114], [109, 117, 108], [100, 105, 118], [114, 101, 109], [115, 108, 116], [115, 108, 116, 117]] else []
end Go.Proofs.Ytcaddlighhiepaa

/- Names of operations. Printed by mkmn.py. -/
namespace Go.Proofs.Ytcaddlighhiepaa
open Go Go.RowKit
set_option linter.unusedSimpArgs false
set_option linter.unusedVariables false

def mnA : List ByteArray := [⟨#[97, 100, 100]⟩, ⟨#[115, 117, 98]⟩, ⟨#[97, 110, 100]⟩, ⟨#[111, 114]⟩, ⟨#[120, 111, 114]⟩, ⟨#[115, 104, 108]⟩, ⟨#[115, 104, 114]⟩, ⟨#[115, 97, 114]⟩, ⟨#[109, 117, 108]⟩, ⟨#[100, 105, 118]⟩, ⟨#[114, 101, 109]⟩, ⟨#[115, 108, 116]⟩, ⟨#[115, 108, 116, 117]⟩]
def mnB : List ByteArray := [⟨#[97, 100, 100, 105]⟩, ⟨#[97, 110, 100, 105]⟩, ⟨#[111, 114, 105]⟩, ⟨#[120, 111, 114, 105]⟩, ⟨#[115, 104, 108, 105]⟩, ⟨#[115, 104, 114, 105]⟩, ⟨#[115, 97, 114, 105]⟩, ⟨#[115, 108, 116, 105]⟩, ⟨#[108, 117, 105]⟩]
def mnC : List ByteArray := [⟨#[108, 119]⟩, ⟨#[108, 98]⟩, ⟨#[108, 98, 117]⟩, ⟨#[115, 119]⟩, ⟨#[115, 98]⟩]
def mnD : List ByteArray := [⟨#[98, 101, 113]⟩, ⟨#[98, 110, 101]⟩, ⟨#[98, 108, 116]⟩, ⟨#[98, 103, 101]⟩, ⟨#[98, 108, 116, 117]⟩, ⟨#[98, 103, 101, 117]⟩]
def mnE : List ByteArray := [⟨#[101, 99, 97, 108, 108]⟩, ⟨#[101, 114, 101, 116]⟩, ⟨#[99, 115, 114, 114]⟩, ⟨#[99, 115, 114, 119]⟩, ⟨#[105, 110]⟩, ⟨#[111, 117, 116]⟩, ⟨#[119, 102, 105]⟩, ⟨#[102, 108, 117, 115, 104]⟩, ⟨#[104, 97, 108, 116]⟩]
def mnV (o : Int) : ByteArray :=
  if 1 ≤ o ∧ o ≤ 13 then mnA.getD (o - 1).toNat ⟨#[]⟩ else if 16 ≤ o ∧ o ≤ 24 then mnB.getD (o - 16).toNat ⟨#[]⟩ else if 32 ≤ o ∧ o ≤ 36 then mnC.getD (o - 32).toNat ⟨#[]⟩ else if 40 ≤ o ∧ o ≤ 45 then mnD.getD (o - 40).toNat ⟨#[]⟩ else if o = 48 then ⟨#[106, 97, 108]⟩ else if o = 49 then ⟨#[106, 97, 108, 114]⟩ else if 56 ≤ o ∧ o ≤ 64 then mnE.getD (o - 56).toNat ⟨#[]⟩ else ⟨#[]⟩
theorem strs_get (L : List ByteArray) (q : Nat) (h : q < L.length) : (L.map SV.str)[0 + q * 1]? = some (.str (L.getD q ⟨#[]⟩)) := by
  rw [Nat.zero_add, Nat.mul_one, List.getElem?_map, List.getElem?_eq_getElem h]; simp [List.getD, h]
theorem mn_size (L : List ByteArray) (hL : ∀ x ∈ L, x ≠ ⟨#[]⟩) (q : Nat) (h : q < L.length) : L.getD q ⟨#[]⟩ ≠ ⟨#[]⟩ := by
  have : L.getD q ⟨#[]⟩ = L[q] := by simp [List.getD, h]
  rw [this]; exact hL _ (List.getElem_mem h)
theorem mnA_ne : ∀ x ∈ mnA, x ≠ ⟨#[]⟩ := by decide
theorem mnB_ne : ∀ x ∈ mnB, x ≠ ⟨#[]⟩ := by decide
theorem mnC_ne : ∀ x ∈ mnC, x ≠ ⟨#[]⟩ := by decide
theorem mnD_ne : ∀ x ∈ mnD, x ≠ ⟨#[]⟩ := by decide
theorem mnE_ne : ∀ x ∈ mnE, x ≠ ⟨#[]⟩ := by decide
theorem mnV_ne (o : Int) (h : useOk o = true) : mnV o ≠ ⟨#[]⟩ := by
  rw [useOk_iff, decide_eq_true_eq] at h
  unfold mnV
  repeat' split
  · exact mn_size _ mnA_ne _ (by show _ < 13; omega)
  · exact mn_size _ mnB_ne _ (by show _ < 9; omega)
  · exact mn_size _ mnC_ne _ (by show _ < 5; omega)
  · exact mn_size _ mnD_ne _ (by show _ < 6; omega)
  · decide
  · decide
  · exact mn_size _ mnE_ne _ (by show _ < 9; omega)
  · exfalso; omega
theorem mnV_no (o : Int) (h : useOk o = false) : mnV o = ⟨#[]⟩ := by
  rw [useOk_iff, decide_eq_false_iff_not] at h
  unfold mnV
  repeat' (first | (rw [if_neg (by omega)]) | rfl)
set_option maxHeartbeats 1000000 in
set_option maxRecDepth 100000 in
theorem mn_fn (o : Int) : Fn Try.prog 60 [.s (.int .i64 o)] [] (· = ⟨.a (.s (.str (mnV o))), [], []⟩) := by
  have gA : 1 ≤ o → o ≤ 13 → (mnA.map SV.str)[0 + (o - 1).toNat * 1]? = some (.str (mnV o)) := fun h1 h2 => by
    have e : mnV o = mnA.getD (o - 1).toNat ⟨#[]⟩ := by
      unfold mnV
      repeat' (first | (rw [if_pos (by omega)]) | (rw [if_neg (by omega)]))
    rw [e]; exact strs_get mnA _ (by show _ < 13; omega)
  have gB : 16 ≤ o → o ≤ 24 → (mnB.map SV.str)[0 + (o - 16).toNat * 1]? = some (.str (mnV o)) := fun h1 h2 => by
    have e : mnV o = mnB.getD (o - 16).toNat ⟨#[]⟩ := by
      unfold mnV
      repeat' (first | (rw [if_pos (by omega)]) | (rw [if_neg (by omega)]))
    rw [e]; exact strs_get mnB _ (by show _ < 9; omega)
  have gC : 32 ≤ o → o ≤ 36 → (mnC.map SV.str)[0 + (o - 32).toNat * 1]? = some (.str (mnV o)) := fun h1 h2 => by
    have e : mnV o = mnC.getD (o - 32).toNat ⟨#[]⟩ := by
      unfold mnV
      repeat' (first | (rw [if_pos (by omega)]) | (rw [if_neg (by omega)]))
    rw [e]; exact strs_get mnC _ (by show _ < 5; omega)
  have gD : 40 ≤ o → o ≤ 45 → (mnD.map SV.str)[0 + (o - 40).toNat * 1]? = some (.str (mnV o)) := fun h1 h2 => by
    have e : mnV o = mnD.getD (o - 40).toNat ⟨#[]⟩ := by
      unfold mnV
      repeat' (first | (rw [if_pos (by omega)]) | (rw [if_neg (by omega)]))
    rw [e]; exact strs_get mnD _ (by show _ < 6; omega)
  have gE : 56 ≤ o → o ≤ 64 → (mnE.map SV.str)[0 + (o - 56).toNat * 1]? = some (.str (mnV o)) := fun h1 h2 => by
    have e : mnV o = mnE.getD (o - 56).toNat ⟨#[]⟩ := by
      unfold mnV
      repeat' (first | (rw [if_pos (by omega)]) | (rw [if_neg (by omega)]))
    rw [e]; exact strs_get mnE _ (by show _ < 9; omega)
  have h48 : o = 48 → mnV o = ⟨#[106, 97, 108]⟩ := fun h => by subst h; rfl
  have h49 : o = 49 → mnV o = ⟨#[106, 97, 108, 114]⟩ := fun h => by subst h; rfl
  have h0 : useOk o = false → mnV o = ⟨#[]⟩ := mnV_no o
  rw [useOk_iff, decide_eq_false_iff_not] at h0
  generalize mnV o = V at *
  refine fn_of_vc mixed tys_ok _ _ Try.func60 (by kernel_rfl) rfl Try.ntmps60 (by rw [Try.results60]) rfl ?_; dsimp only [argTm, argHl, Nat.zero_add, Nat.reduceAdd, List.length_nil, List.length_cons]
  (repeat' ((conv => whnf); first | ((with_reducible apply Ge.mk (α := SV)); · first | exact gA (by omega) (by omega) | exact gB (by omega) (by omega) | exact gC (by omega) (by omega) | exact gD (by omega) (by omega) | exact gE (by omega) (by omega)) | (with_reducible apply sd_draw; · kernel_rfl) | (apply Sd.mk; · exact aSd) | ((with_reducible apply Vl.mk (α := Int)); · exact aAr) | ((with_reducible first | apply Vl.mk (α := Bool) | apply Vl.mk (α := Nat) | apply Vl.mk (α := ByteArray) | apply Ge.mk (α := Row) | apply Ge.mk (α := SV) | apply Ge.mk (α := AV)); · exact rfl) | (refine And.intro rfl ?_) | ((with_reducible first | apply Vl.mk (α := List SV) | apply Vl.mk (α := Ef) | apply Vl.mk (α := TV) | apply Ge.mk (α := List SV) | apply Sg.mk | apply Sk.mk); · exact aCl) | ((first | apply Br.mk | apply Gd.mk) <;> (intro hb; first | exact aKl hb | (simp only [d1, d2, beq_iff_eq, bne_iff_ne, d3, d4, d5, d6, Int.not_lt, Int.not_le, ge_iff_le, gt_iff_lt, ne_eq, d7] at hb; first | (exfalso; omega) | skip) | skip)))); (all_goals (try (conv => whnf)))
  all_goals first
    | exact fin_pure rfl rfl
    | (rw [h48 (by omega)]; exact fin_pure rfl rfl)
    | (rw [h49 (by omega)]; exact fin_pure rfl rfl)
    | (rw [h0 (by omega)]; exact fin_pure rfl rfl)
end Go.Proofs.Ytcaddlighhiepaa

/- block.May of any block. -/
namespace Go.Proofs.Ytcaddlighhiepaa
open Go Go.RowKit
set_option linter.unusedSimpArgs false
set_option linter.unusedVariables false

/-- An operation with any numbers; its cells. -/
structure Mz where
  (o a b c : Int) (k : Nat) (n : Int)
def Mz.C (m : Mz) : List SV := [.int .i64 m.o, .int .i64 m.a, .int .i64 m.b, .int .i64 m.c, .int .u32 m.k, .int .i64 m.n]
def mzs : List Mz → List SV
  | [] => []
  | m :: l => m.C ++ mzs l
theorem mzs_len : ∀ l : List Mz, (mzs l).length = l.length * 6
  | [] => rfl
  | m :: l => by show (m.C ++ mzs l).length = _; rw [List.length_append, mzs_len l]; simp [Mz.C]; omega
theorem mzs_scal : ∀ l : List Mz, allScal (mzs l) = true
  | [] => rfl
  | m :: l => mzs_scal l
theorem mzs_known : ∀ l : List Mz, allKnown (mzs l) = true
  | [] => rfl
  | m :: l => mzs_known l
theorem mzs_at : ∀ (l : List Mz) (j : Nat) (m : Mz), l[j]? = some m → ∀ i, i < 6 → (mzs l)[j * 6 + i]? = (m.C)[i]?
  | m' :: l, 0, m, h, i, hi => by
    injection h with h; subst h
    show (m'.C ++ mzs l)[0 * 6 + i]? = _
    rw [Nat.zero_mul, Nat.zero_add, List.getElem?_append_left (by simp [Mz.C]; omega)]
  | m' :: l, j + 1, m, h, i, hi => by
    show (m'.C ++ mzs l)[(j + 1) * 6 + i]? = _
    rw [List.getElem?_append_right (by simp [Mz.C]; omega)]
    have : (j + 1) * 6 + i - (m'.C).length = j * 6 + i := by simp [Mz.C]; omega
    rw [this]
    exact mzs_at l j m (by simpa using h) i hi
theorem mzs_seg (l : List Mz) (j : Nat) (m : Mz) (h : l[j]? = some m) : (m.C).length = 6 ∧ ∀ (i : Nat) s, (m.C)[i]? = some s → (mzs l)[j * 6 + i]? = some s :=
  ⟨rfl, fun i s hs => by
    have hi : i < 6 := (List.getElem?_eq_some_iff.1 hs).1
    rw [mzs_at l j m h i hi]; exact hs⟩
def Mi.z (m : Mi) : Mz := ⟨m.o, m.a, m.b, m.c, m.k, m.n⟩
theorem mzs_mcs : ∀ l : List Mi, mzs (l.map Mi.z) = mcs l
  | [] => rfl
  | m :: l => by show Mz.C _ ++ mzs (l.map Mi.z) = Mi.C m ++ mcs l; rw [mzs_mcs l]; rfl
/-- An operation that may stand; the sum of the numbers, if all may. -/
def okM (m : Mz) (last : Bool) : Bool := useOk m.o && decide (1 ≤ m.n) && decide (m.n ≤ 16) && rgB m.a && rgB m.b && rgB m.c && (last || !endsB m.o)
def maySum : List Mz → Int → Option Int
  | [], s => some s
  | m :: l, s => if okM m l.isEmpty = true then maySum l (s + m.n) else none
def hdB (A : Nat) (L : Int) : Bool := decide (A % 4 = 0 ∧ 1 ≤ L ∧ L ≤ 16 ∧ L ≤ 32 - (A : Int) % 128 / 4)
def mayV (A : Nat) (L : Int) (l : List Mz) : Bool := hdB A L && (maySum l 0 == some L)
theorem mayV_hd {A : Nat} {L : Int} {l : List Mz} (h : ¬ (A % 4 = 0 ∧ 1 ≤ L ∧ L ≤ 16 ∧ L ≤ 32 - (A : Int) % 128 / 4)) : mayV A L l = false := by
  unfold mayV hdB; rw [decide_eq_false h]; rfl
theorem mayV_sum {A : Nat} {L : Int} {l : List Mz} (h : A % 4 = 0 ∧ 1 ≤ L ∧ L ≤ 16 ∧ L ≤ 32 - (A : Int) % 128 / 4) : mayV A L l = (maySum l 0 == some L) := by
  unfold mayV hdB; rw [decide_eq_true h]; rfl
def mays (N A : Nat) (L : Int) (LL : List SV) (i : Nat) (s : Int) : St :=
  ⟨[(1, .a (.s (.ptr 1 0))), (3, .a (.s (.int .i64 s))), (29, .a (.s (.sl 0 0 N))), (30, .a (.s (.int .i64 N))), (31, .a (.s (.int .i64 i)))],
   [(0, some ⟨false, 6, LL⟩), (1, some ⟨true, 1, [.int .u32 A, .int .i64 L, .sl 0 0 N]⟩)], [0]⟩
set_option maxHeartbeats 600000 in
set_option maxRecDepth 100000 in
theorem may_fn (A : Nat) (hA : A < 4294967296) (L : Int) (l : List Mz) (N : Nat) (hN : l.length = N) (hN2 : N ≤ 1000000) :
    Fn Try.prog 36 [.agg [.int .u32 A, .int .i64 L, .sl 0 0 N]] [⟨false, 6, mzs l⟩] (· = ⟨.a (.s (.bool (mayV A L l))), [], []⟩) := by
  have hsc := mzs_scal l
  have hLl := mzs_len l
  have hr := room_fn A hA
  have h4 : ∀ x : Int, (x = (A : Int) % 4) → (x = 0 ↔ A % 4 = 0) := fun x hx => by omega
  generalize hLL : mzs l = LL at *
  refine fn_of_vc mixed tys_ok _ _ Try.func36 (by kernel_rfl) rfl Try.ntmps36 (by rw [Try.results36]) rfl ?_; dsimp only [argTm, argHl, Nat.zero_add, Nat.reduceAdd, List.length_nil, List.length_cons]
  (repeat' ((conv => whnf); first | (refine vcall_pure (f := 56) (hr) rfl ?_) | (with_reducible apply sd_draw; · kernel_rfl) | (apply Sd.mk; · exact aSd) | ((with_reducible apply Vl.mk (α := Int)); · exact aAr) | ((with_reducible first | apply Vl.mk (α := Bool) | apply Vl.mk (α := Nat) | apply Vl.mk (α := ByteArray) | apply Ge.mk (α := Row) | apply Ge.mk (α := SV) | apply Ge.mk (α := AV)); · exact rfl) | (refine And.intro rfl ?_) | ((with_reducible first | apply Vl.mk (α := List SV) | apply Vl.mk (α := Ef) | apply Vl.mk (α := TV) | apply Ge.mk (α := List SV) | apply Sg.mk | apply Sk.mk); · exact aCl) | ((first | apply Br.mk | apply Gd.mk) <;> (intro hb; first | exact aKl hb | (simp only [d1, d2, beq_iff_eq, bne_iff_ne, d3, d4, d5, d6, Int.not_lt, Int.not_le, ge_iff_le, gt_iff_lt, ne_eq, d7] at hb; first | (exfalso; omega) | skip) | skip)))); (all_goals (try (conv => whnf)))
  · rw [mayV_hd (by omega)]; (apply Fin.mk (m := [(0, some 0)]); (focus exact rfl); (all_goals ((try (show HlS _ _ [] _)); first | (exact aFi) | exact rfl)))
  · refine Lp.inv (fun mm σ => ∃ (i : Nat) (s : Int), mm + i = N ∧ 0 ≤ s ∧ s ≤ 16 * i ∧ maySum (l.drop i) s = maySum l 0 ∧ σ = mays N A L LL i s) ?_ ?_
    · refine ⟨N, mays N A L LL 0 0, ?_, 0, 0, by omega, by omega, by omega, rfl, rfl⟩
      apply wk_of (m := [(0, some 0), (1, some 65536)])
      · repeat' (first | exact tml_nil | apply tml_cons)
        all_goals first | exact tvm_a (avm_s (svm_same rfl)) | exact tvm_a (avm_s (svm_ptr rfl)) | exact tvm_a (avm_s (svm_sl rfl))
      · show HlS _ _ [] _
        refine hls_row (rowmt_mk rfl rfl rfl rfl (svsm_scal hsc)) ?_
        refine hls_row (rowmt_mk rfl rfl rfl rfl (.cons (svm_same rfl) (.cons (svm_same rfl) (.cons (svm_sl rfl) .nil)))) ?_
        exact hls_nil
      · rfl
    · rintro mm σ ⟨i, s, hmi, hs0, hs1, hinv, rfl⟩
      unfold mays
      by_cases hiN : i < N
      · obtain ⟨⟨o, a, b, c, k, n⟩, hm⟩ : ∃ m, l[i]? = some m := ⟨l[i]'(by omega), List.getElem?_eq_getElem (by omega)⟩
        have hd : l.drop i = ⟨o, a, b, c, k, n⟩ :: l.drop (i + 1) := by
          have hlt := (List.getElem?_eq_some_iff.1 hm).1
          rw [List.drop_eq_getElem_cons hlt]
          congr 1
          exact (List.getElem?_eq_some_iff.1 hm).2
        have hie : (l.drop (i + 1)).isEmpty = decide (i + 1 = N) := by
          rw [Bool.eq_iff_iff, List.isEmpty_iff, List.drop_eq_nil_iff, decide_eq_true_eq]; omega
        have hst : ∀ okb, okM ⟨o, a, b, c, k, n⟩ (decide (i + 1 = N)) = okb → maySum l 0 = if okb = true then maySum (l.drop (i + 1)) (s + n) else none := fun okb h => by
          rw [← hinv, hd, maySum, hie, h]
        have hok : okM ⟨o, a, b, c, k, n⟩ (decide (i + 1 = N)) = (useOk o && decide (1 ≤ n) && decide (n ≤ 16) && rgB a && rgB b && rgB c && (decide (i + 1 = N) || !endsB o)) := rfl
        generalize okM ⟨o, a, b, c, k, n⟩ (decide (i + 1 = N)) = okb at *
        replace hst := hst _ rfl
        have seg := mzs_seg l i _ hm
        have q1 : 1 ≤ n → n ≤ 16 → IntKind.i64.wrap (s + n) = s + n := fun h1 h2 => wi64 (by omega) (by omega)
        have q2 : IntKind.i64.wrap ((i : Int) + 1) = ((i + 1 : Nat) : Int) := by rw [wi64 (by omega) (by omega)]; omega
        have x1 : 0 + ((i : Nat) : Int).toNat * ty59.size = i * 6 := by show 0 + ((i : Nat) : Int).toNat * 6 = _; omega
        have cv := validO_fn o
        have ca := breg_fn a
        have cb := breg_fn b
        have cc := breg_fn c
        have ce := ends_fn o
        dsimp only [Mz.C] at seg
        rw [hLL] at seg
        generalize hU : useOk o = U at *
        generalize hE : endsB o = E at *
        generalize hra : rgB a = ra at *
        generalize hrb : rgB b = rb at *
        generalize hrc : rgB c = rc at *
        (repeat' ((conv => whnf); first | ((with_reducible apply Vl.mk (α := Int)); · with_reducible first | exact q1 (by omega) (by omega) | exact q2)  |  ((with_reducible apply Vl.mk (α := Nat)); · with_reducible exact x1)  |  (apply Sg.mk; · exact seg)  |  (refine vcall_pure (f := 57) (cv) rfl ?_)  |  (refine vcall_pure (f := 58) (ca) rfl ?_)  |  (refine vcall_pure (f := 58) (cb) rfl ?_)  |  (refine vcall_pure (f := 58) (cc) rfl ?_)  |  (refine vcall_pure (f := 59) (ce) rfl ?_) | (with_reducible apply sd_draw; · kernel_rfl) | (apply Sd.mk; · exact aSd) | ((with_reducible apply Vl.mk (α := Int)); · exact aAr) | ((with_reducible first | apply Vl.mk (α := Bool) | apply Vl.mk (α := Nat) | apply Vl.mk (α := ByteArray) | apply Ge.mk (α := Row) | apply Ge.mk (α := SV) | apply Ge.mk (α := AV)); · exact rfl) | (refine And.intro rfl ?_) | ((with_reducible first | apply Vl.mk (α := List SV) | apply Vl.mk (α := Ef) | apply Vl.mk (α := TV) | apply Ge.mk (α := List SV) | apply Sg.mk | apply Sk.mk); · exact aCl) | ((first | apply Br.mk | apply Gd.mk) <;> (intro hb; first | exact aKl hb | (simp only [d1, d2, beq_iff_eq, bne_iff_ne, d3, d4, d5, d6, Int.not_lt, Int.not_le, ge_iff_le, gt_iff_lt, ne_eq, d7] at hb; first | (exfalso; omega) | skip) | skip)))); (all_goals (try (conv => whnf)))
        all_goals first
          | (rw [mayV_sum ⟨by omega, by omega, by omega, by omega⟩, hst, if_neg (by rw [hok]; grind), show ((none : Option Int) == some L) = false from rfl]
             (apply Fin.mk (m := [(0, some 0)]); (focus exact rfl); (all_goals ((try (show HlS _ _ [] _)); first | (exact aFi) | exact rfl))))
          | (refine ⟨mm - 1, mays N A L LL (i + 1) (s + n), by omega, ?_, i + 1, s + n, by omega, by omega, by omega, by rw [hst, if_pos (by rw [hok]; grind)], rfl⟩
             apply wk_of (m := [(0, some 0), (1, some 1)])
             · repeat' (first | exact tml_nil | apply tml_cons)
               all_goals first | exact tvm_a (avm_s (svm_same rfl)) | exact tvm_a (avm_s (svm_ptr rfl)) | exact tvm_a (avm_s (svm_sl rfl))
             · show HlS _ _ [] _
               refine hls_row (rowmt_mk rfl rfl rfl rfl (svsm_scal hsc)) ?_
               refine hls_row (rowmt_mk rfl rfl rfl rfl (.cons (svm_same rfl) (.cons (svm_same rfl) (.cons (svm_sl rfl) .nil)))) ?_
               exact hls_nil
             · rfl)
          | trace_state
      · have hdn : l.drop i = [] := List.drop_eq_nil_of_le (by omega)
        have hst : maySum l 0 = some s := by rw [← hinv, hdn]; rfl
        rw [mayV_sum ⟨by omega, by omega, by omega, by omega⟩, hst]
        (repeat' ((conv => whnf); first | (with_reducible apply sd_draw; · kernel_rfl) | (apply Sd.mk; · exact aSd) | ((with_reducible apply Vl.mk (α := Int)); · exact aAr) | ((with_reducible first | apply Vl.mk (α := Bool) | apply Vl.mk (α := Nat) | apply Vl.mk (α := ByteArray) | apply Ge.mk (α := Row) | apply Ge.mk (α := SV) | apply Ge.mk (α := AV)); · exact rfl) | (refine And.intro rfl ?_) | ((with_reducible first | apply Vl.mk (α := List SV) | apply Vl.mk (α := Ef) | apply Vl.mk (α := TV) | apply Ge.mk (α := List SV) | apply Sg.mk | apply Sk.mk); · exact aCl) | ((first | apply Br.mk | apply Gd.mk) <;> (intro hb; first | exact aKl hb | (simp only [d1, d2, beq_iff_eq, bne_iff_ne, d3, d4, d5, d6, Int.not_lt, Int.not_le, ge_iff_le, gt_iff_lt, ne_eq, d7] at hb; first | (exfalso; omega) | skip) | skip)))); (all_goals (try (conv => whnf)))
        all_goals first | ((apply Fin.mk (m := [(0, some 0)]); (focus exact rfl); (all_goals ((try (show HlS _ _ [] _)); first | (exact aFi) | exact rfl)))) | trace_state
  all_goals first | (rw [mayV_hd (by omega)]; (apply Fin.mk (m := [(0, some 0)]); (focus exact rfl); (all_goals ((try (show HlS _ _ [] _)); first | (exact aFi) | exact rfl)))) | trace_state
end Go.Proofs.Ytcaddlighhiepaa

/- BlockMay of the reference, of any block. -/
namespace Go.Proofs.Ytcaddlighhiepaa
open Go Go.RowKit
set_option linter.unusedSimpArgs false
set_option linter.unusedVariables false

theorem btl_loop (b : ByteArray) (i : Nat) (r : List UInt8) : ByteArray.toList.loop b i r = r.reverse ++ b.data.toList.drop i := by
  fun_induction ByteArray.toList.loop b i r with
  | case1 i r h ih =>
    rw [ih]
    have : i < b.data.toList.length := by simpa using h
    rw [List.drop_eq_getElem_cons this]
    simp
    exact getElem!_pos b.data i h
  | case2 i r h =>
    rw [List.drop_eq_nil_of_le (by simpa using h)]; simp
theorem btl (b : ByteArray) : b.toList = b.data.toList := by
  unfold ByteArray.toList; rw [btl_loop]; simp
theorem mnV_iff (o : Int) : ((mnV o).toList = (⟨#[]⟩ : ByteArray).toList) ↔ useOk o = false := by
  rw [btl, btl]
  constructor
  · intro h
    cases hu : useOk o with
    | false => rfl
    | true =>
      have h2 := mnV_ne o hu
      refine absurd ?_ h2
      have h3 : (mnV o).data = #[] := Array.toList_inj.1 h
      generalize mnV o = V at *
      cases V
      dsimp only at h3
      rw [h3]
  · intro h; rw [mnV_no o h]
theorem okM_n {m : Mz} {b : Bool} (h : okM m b = true) : 1 ≤ m.n ∧ m.n ≤ 16 := by
  unfold okM at h
  simp only [Bool.and_eq_true, decide_eq_true_eq] at h
  omega
theorem maySum_len : ∀ (l : List Mz) (s L : Int), maySum l s = some L → s + l.length ≤ L
  | [], s, L, h => by injection h with h; subst h; simp
  | m :: l, s, L, h => by
    unfold maySum at h
    split at h
    · rename_i ho
      have := maySum_len l _ _ h
      have := okM_n ho
      rw [List.length_cons]; omega
    · cases h
theorem mayV_len {A : Nat} {L : Int} {l : List Mz} (h : l.length < 1 ∨ 16 < l.length) : mayV A L l = false := by
  cases hc : mayV A L l with
  | false => rfl
  | true =>
    exfalso
    unfold mayV hdB at hc
    simp only [Bool.and_eq_true, decide_eq_true_eq, beq_iff_eq] at hc
    have := maySum_len l 0 L hc.2
    rcases h with h | h
    · have : l = [] := List.length_eq_zero_iff.1 (by omega)
      subst this
      have := hc.2
      injection this with this
      omega
    · omega
set_option maxRecDepth 100000 in
theorem b14reg_fn (r : Int) : Fn Try.prog 61 [.s (.int .i64 r)] [] (· = ⟨.a (.s (.bool (rgB r))), [], []⟩) := by
  refine fn_of_vc mixed tys_ok _ _ Try.func61 (by kernel_rfl) rfl Try.ntmps61 (by rw [Try.results61]) rfl ?_; dsimp only [argTm, argHl, Nat.zero_add, Nat.reduceAdd, List.length_nil, List.length_cons]
  (repeat' ((conv => whnf); first | (with_reducible apply sd_draw; · kernel_rfl) | (apply Sd.mk; · exact aSd) | ((with_reducible apply Vl.mk (α := Int)); · exact aAr) | ((with_reducible first | apply Vl.mk (α := Bool) | apply Vl.mk (α := Nat) | apply Vl.mk (α := ByteArray) | apply Ge.mk (α := Row) | apply Ge.mk (α := SV) | apply Ge.mk (α := AV)); · exact rfl) | (refine And.intro rfl ?_) | ((with_reducible first | apply Vl.mk (α := List SV) | apply Vl.mk (α := Ef) | apply Vl.mk (α := TV) | apply Ge.mk (α := List SV) | apply Sg.mk | apply Sk.mk); · exact aCl) | ((first | apply Br.mk | apply Gd.mk) <;> (intro hb; first | exact aKl hb | (simp only [d1, d2, beq_iff_eq, bne_iff_ne, d3, d4, d5, d6, Int.not_lt, Int.not_le, ge_iff_le, gt_iff_lt, ne_eq, d7] at hb; first | (exfalso; omega) | skip) | skip)))); (all_goals (try (conv => whnf)))
  all_goals (refine fin_pure rfl ?_; simp only [mkRes]; congr 3; grind [rgB])
def bmays (N A : Nat) (L : Int) (LL : List SV) (i : Nat) (s : Int) : St :=
  ⟨[(1, .a (.s (.ptr 1 0))), (3, .a (.s (.int .i64 s))), (4, .a (.s (.int .i64 i)))],
   [(0, some ⟨false, 6, LL⟩), (1, some ⟨true, 1, [.int .u32 A, .int .i64 L, .sl 0 0 N]⟩)], [0]⟩
set_option maxHeartbeats 600000 in
set_option maxRecDepth 100000 in
theorem bmay_fn (A : Nat) (hA : A < 4294967296) (L : Int) (l : List Mz) (N : Nat) (hN : l.length = N) (hN2 : N ≤ 1000000) :
    Fn Try.prog 38 [.agg [.int .u32 A, .int .i64 L, .sl 0 0 N]] [⟨false, 6, mzs l⟩] (· = ⟨.a (.s (.bool (mayV A L l))), [], []⟩) := by
  have hsc := mzs_scal l
  have hLl := mzs_len l
  have h4 : ∀ x : Int, (x = (A : Int) % 4) → (x = 0 ↔ A % 4 = 0) := fun x hx => by omega
  generalize hLL : mzs l = LL at *
  have q4 : 1 ≤ L → L ≤ 16 → IntKind.i64.wrap ((A : Int) % 128 / 4 + L) = (A : Int) % 128 / 4 + L := fun h1 h2 => wi64 (by omega) (by omega)
  refine fn_of_vc mixed tys_ok _ _ Try.func38 (by kernel_rfl) rfl Try.ntmps38 (by rw [Try.results38]) rfl ?_; dsimp only [argTm, argHl, Nat.zero_add, Nat.reduceAdd, List.length_nil, List.length_cons]
  (repeat' ((conv => whnf); first | ((with_reducible apply Vl.mk (α := Int)); · with_reducible exact q4 (by omega) (by omega)) | (with_reducible apply sd_draw; · kernel_rfl) | (apply Sd.mk; · exact aSd) | ((with_reducible apply Vl.mk (α := Int)); · exact aAr) | ((with_reducible first | apply Vl.mk (α := Bool) | apply Vl.mk (α := Nat) | apply Vl.mk (α := ByteArray) | apply Ge.mk (α := Row) | apply Ge.mk (α := SV) | apply Ge.mk (α := AV)); · exact rfl) | (refine And.intro rfl ?_) | ((with_reducible first | apply Vl.mk (α := List SV) | apply Vl.mk (α := Ef) | apply Vl.mk (α := TV) | apply Ge.mk (α := List SV) | apply Sg.mk | apply Sk.mk); · exact aCl) | ((first | apply Br.mk | apply Gd.mk) <;> (intro hb; first | exact aKl hb | (simp only [d1, d2, beq_iff_eq, bne_iff_ne, d3, d4, d5, d6, Int.not_lt, Int.not_le, ge_iff_le, gt_iff_lt, ne_eq, d7] at hb; first | (exfalso; omega) | skip) | skip)))); (all_goals (try (conv => whnf)))
  · first | (rw [mayV_hd (by omega)]; (apply Fin.mk (m := [(0, some 0)]); (focus exact rfl); (all_goals ((try (show HlS _ _ [] _)); first | (exact aFi) | exact rfl)))) | (rw [mayV_len (by omega)]; (apply Fin.mk (m := [(0, some 0)]); (focus exact rfl); (all_goals ((try (show HlS _ _ [] _)); first | (exact aFi) | exact rfl))))
  · refine Lp.inv (fun mm σ => ∃ (i : Nat) (s : Int), mm + i = N ∧ 0 ≤ s ∧ s ≤ 16 * i ∧ maySum (l.drop i) s = maySum l 0 ∧ σ = bmays N A L LL i s) ?_ ?_
    · refine ⟨N, bmays N A L LL 0 0, ?_, 0, 0, by omega, by omega, by omega, rfl, rfl⟩
      apply wk_of (m := [(0, some 0), (1, some 65536)])
      · repeat' (first | exact tml_nil | apply tml_cons)
        all_goals first | exact tvm_a (avm_s (svm_same rfl)) | exact tvm_a (avm_s (svm_ptr rfl)) | exact tvm_a (avm_s (svm_sl rfl))
      · show HlS _ _ [] _
        refine hls_row (rowmt_mk rfl rfl rfl rfl (svsm_scal hsc)) ?_
        refine hls_row (rowmt_mk rfl rfl rfl rfl (.cons (svm_same rfl) (.cons (svm_same rfl) (.cons (svm_sl rfl) .nil)))) ?_
        exact hls_nil
      · rfl
    · rintro mm σ ⟨i, s, hmi, hs0, hs1, hinv, rfl⟩
      unfold bmays
      by_cases hiN : i < N
      · obtain ⟨⟨o, a, b, c, k, n⟩, hm⟩ : ∃ m, l[i]? = some m := ⟨l[i]'(by omega), List.getElem?_eq_getElem (by omega)⟩
        have hd : l.drop i = ⟨o, a, b, c, k, n⟩ :: l.drop (i + 1) := by
          have hlt := (List.getElem?_eq_some_iff.1 hm).1
          rw [List.drop_eq_getElem_cons hlt]
          congr 1
          exact (List.getElem?_eq_some_iff.1 hm).2
        have hie : (l.drop (i + 1)).isEmpty = decide (i + 1 = N) := by
          rw [Bool.eq_iff_iff, List.isEmpty_iff, List.drop_eq_nil_iff, decide_eq_true_eq]; omega
        have hst : ∀ okb, okM ⟨o, a, b, c, k, n⟩ (decide (i + 1 = N)) = okb → maySum l 0 = if okb = true then maySum (l.drop (i + 1)) (s + n) else none := fun okb h => by
          rw [← hinv, hd, maySum, hie, h]
        have hok : okM ⟨o, a, b, c, k, n⟩ (decide (i + 1 = N)) = (useOk o && decide (1 ≤ n) && decide (n ≤ 16) && rgB a && rgB b && rgB c && (decide (i + 1 = N) || !endsB o)) := rfl
        generalize okM ⟨o, a, b, c, k, n⟩ (decide (i + 1 = N)) = okb at *
        replace hst := hst _ rfl
        have seg := mzs_seg l i _ hm
        have q1 : 1 ≤ n → n ≤ 16 → IntKind.i64.wrap (s + n) = s + n := fun h1 h2 => wi64 (by omega) (by omega)
        have q2 : IntKind.i64.wrap ((i : Int) + 1) = ((i + 1 : Nat) : Int) := by rw [wi64 (by omega) (by omega)]; omega
        have q2' : IntKind.i64.wrap ((i : Int) + 1) = (i : Int) + 1 := wi64 (by omega) (by omega)
        have x1 : 0 + ((i : Nat) : Int).toNat * ty59.size = i * 6 := by show 0 + ((i : Nat) : Int).toNat * 6 = _; omega
        have cv := mn_fn o
        have hv := mnV_iff o
        have ca := b14reg_fn a
        have cb := b14reg_fn b
        have cc := b14reg_fn c
        have ce := rends_fn o
        dsimp only [Mz.C] at seg
        rw [hLL] at seg
        generalize hU : useOk o = U at *
        generalize mnV o = V at *
        generalize hE : endsB o = E at *
        generalize hra : rgB a = ra at *
        generalize hrb : rgB b = rb at *
        generalize hrc : rgB c = rc at *
        (repeat' ((conv => whnf); first | ((with_reducible apply Vl.mk (α := Int)); · with_reducible first | exact q2' | exact q1 (by omega) (by omega) | exact q2)  |  ((with_reducible apply Vl.mk (α := Nat)); · with_reducible exact x1)  |  (apply Sg.mk; · exact seg)  |  (refine vcall_pure (f := 60) (cv) rfl ?_)  |  (refine vcall_pure (f := 61) (ca) rfl ?_)  |  (refine vcall_pure (f := 61) (cb) rfl ?_)  |  (refine vcall_pure (f := 61) (cc) rfl ?_)  |  (refine vcall_pure (f := 31) (ce) rfl ?_) | (with_reducible apply sd_draw; · kernel_rfl) | (apply Sd.mk; · exact aSd) | ((with_reducible apply Vl.mk (α := Int)); · exact aAr) | ((with_reducible first | apply Vl.mk (α := Bool) | apply Vl.mk (α := Nat) | apply Vl.mk (α := ByteArray) | apply Ge.mk (α := Row) | apply Ge.mk (α := SV) | apply Ge.mk (α := AV)); · exact rfl) | (refine And.intro rfl ?_) | ((with_reducible first | apply Vl.mk (α := List SV) | apply Vl.mk (α := Ef) | apply Vl.mk (α := TV) | apply Ge.mk (α := List SV) | apply Sg.mk | apply Sk.mk); · exact aCl) | ((first | apply Br.mk | apply Gd.mk) <;> (intro hb; first | exact aKl hb | (simp only [d1, d2, beq_iff_eq, bne_iff_ne, d3, d4, d5, d6, Int.not_lt, Int.not_le, ge_iff_le, gt_iff_lt, ne_eq, d7] at hb; first | (exfalso; omega) | skip) | skip)))); (all_goals (try (conv => whnf)))
        all_goals first
          | (rw [mayV_sum ⟨by omega, by omega, by omega, by omega⟩, hst, if_neg (by rw [hok]; grind), show ((none : Option Int) == some L) = false from rfl]
             (apply Fin.mk (m := [(0, some 0)]); (focus exact rfl); (all_goals ((try (show HlS _ _ [] _)); first | (exact aFi) | exact rfl))))
          | (refine ⟨mm - 1, bmays N A L LL (i + 1) (s + n), by omega, ?_, i + 1, s + n, by omega, by omega, by omega, by rw [hst, if_pos (by rw [hok]; grind)], rfl⟩
             apply wk_of (m := [(0, some 0), (1, some 1)])
             · repeat' (first | exact tml_nil | apply tml_cons)
               all_goals first | exact tvm_a (avm_s (svm_same rfl)) | exact tvm_a (avm_s (svm_ptr rfl)) | exact tvm_a (avm_s (svm_sl rfl))
             · show HlS _ _ [] _
               refine hls_row (rowmt_mk rfl rfl rfl rfl (svsm_scal hsc)) ?_
               refine hls_row (rowmt_mk rfl rfl rfl rfl (.cons (svm_same rfl) (.cons (svm_same rfl) (.cons (svm_sl rfl) .nil)))) ?_
               exact hls_nil
             · rfl)
          | trace_state
      · have hdn : l.drop i = [] := List.drop_eq_nil_of_le (by omega)
        have hst : maySum l 0 = some s := by rw [← hinv, hdn]; rfl
        rw [mayV_sum ⟨by omega, by omega, by omega, by omega⟩, hst]
        (repeat' ((conv => whnf); first | (with_reducible apply sd_draw; · kernel_rfl) | (apply Sd.mk; · exact aSd) | ((with_reducible apply Vl.mk (α := Int)); · exact aAr) | ((with_reducible first | apply Vl.mk (α := Bool) | apply Vl.mk (α := Nat) | apply Vl.mk (α := ByteArray) | apply Ge.mk (α := Row) | apply Ge.mk (α := SV) | apply Ge.mk (α := AV)); · exact rfl) | (refine And.intro rfl ?_) | ((with_reducible first | apply Vl.mk (α := List SV) | apply Vl.mk (α := Ef) | apply Vl.mk (α := TV) | apply Ge.mk (α := List SV) | apply Sg.mk | apply Sk.mk); · exact aCl) | ((first | apply Br.mk | apply Gd.mk) <;> (intro hb; first | exact aKl hb | (simp only [d1, d2, beq_iff_eq, bne_iff_ne, d3, d4, d5, d6, Int.not_lt, Int.not_le, ge_iff_le, gt_iff_lt, ne_eq, d7] at hb; first | (exfalso; omega) | skip) | skip)))); (all_goals (try (conv => whnf)))
        all_goals first | ((apply Fin.mk (m := [(0, some 0)]); (focus exact rfl); (all_goals ((try (show HlS _ _ [] _)); first | (exact aFi) | exact rfl)))) | trace_state
  all_goals first | (first | (rw [mayV_hd (by omega)]; (apply Fin.mk (m := [(0, some 0)]); (focus exact rfl); (all_goals ((try (show HlS _ _ [] _)); first | (exact aFi) | exact rfl)))) | (rw [mayV_len (by omega)]; (apply Fin.mk (m := [(0, some 0)]); (focus exact rfl); (all_goals ((try (show HlS _ _ [] _)); first | (exact aFi) | exact rfl))))) | trace_state
end Go.Proofs.Ytcaddlighhiepaa

/- Blocks: validity of blocks whose registers are numbers of registers; SameBlock. -/
namespace Go.Proofs.Ytcaddlighhiepaa
open Go Go.RowKit
set_option linter.unusedSimpArgs false
set_option linter.unusedVariables false

theorem okM_z (m : Mi) (b : Bool) (h : m.a < 16 ∧ m.b < 16 ∧ m.c < 16) : okM m.z b = true ↔ useOk m.o = true ∧ 1 ≤ m.n ∧ m.n ≤ 16 ∧ (b = true ∨ endsB m.o = false) := by
  have e : ∀ r : Nat, r < 16 → rgB (r : Int) = true := fun r hr => by unfold rgB; exact decide_eq_true (by omega)
  unfold okM Mi.z
  dsimp only
  rw [e _ h.1, e _ h.2.1, e _ h.2.2]
  simp only [Bool.and_eq_true, Bool.or_eq_true, decide_eq_true_eq, Bool.not_eq_true', and_true]
  constructor
  · rintro ⟨⟨⟨h1, h2⟩, h3⟩, h4⟩; exact ⟨h1, h2, h3, h4⟩
  · rintro ⟨h1, h2, h3, h4⟩; exact ⟨⟨⟨h1, h2⟩, h3⟩, h4⟩
def MiOk (m : Mi) : Prop := m.a < 16 ∧ m.b < 16 ∧ m.c < 16 ∧ m.k < 4294967296
theorem mayV_iff (A : Nat) (L : Int) (l : List Mz) : mayV A L l = true ↔ hdB A L = true ∧ maySum l 0 = some L := by
  unfold mayV; simp [beq_iff_eq]
theorem hdB_le {A : Nat} {L : Int} (h : hdB A L = true) : 1 ≤ L ∧ L ≤ 16 := by
  unfold hdB at h; simp only [decide_eq_true_eq] at h; omega
theorem mayI_fn (A : Nat) (hA : A < 4294967296) (L : Int) (l : List Mi) (N : Nat) (hN : l.length = N) (hN2 : N ≤ 1000000) (h : mayV A L (l.map Mi.z) = true) :
    Fn Try.prog 36 [.agg [.int .u32 A, .int .i64 L, .sl 0 0 N]] [⟨false, 6, mcs l⟩] (· = ⟨.a (.s (.bool true)), [], []⟩) := by
  have := may_fn A hA L (l.map Mi.z) N (by rw [List.length_map]; exact hN) hN2
  rw [h, mzs_mcs] at this
  exact this
theorem bmayI_fn (A : Nat) (hA : A < 4294967296) (L : Int) (l : List Mi) (N : Nat) (hN : l.length = N) (hN2 : N ≤ 1000000) (h : mayV A L (l.map Mi.z) = true) :
    Fn Try.prog 38 [.agg [.int .u32 A, .int .i64 L, .sl 0 0 N]] [⟨false, 6, mcs l⟩] (· = ⟨.a (.s (.bool true)), [], []⟩) := by
  have := bmay_fn A hA L (l.map Mi.z) N (by rw [List.length_map]; exact hN) hN2
  rw [h, mzs_mcs] at this
  exact this
theorem maySum_n : ∀ (l : List Mi) (s L : Int), maySum (l.map Mi.z) s = some L → ∀ m ∈ l, 1 ≤ m.n ∧ m.n ≤ 16
  | [], _, _, _, m, hm => by cases hm
  | m0 :: l, s, L, h, m, hm => by
    rw [List.map_cons, maySum] at h
    split at h
    · rename_i ho
      rcases List.mem_cons.1 hm with e | e
      · subst e; exact okM_n ho
      · exact maySum_n l _ _ h m e
    · cases h
theorem toMi : ∀ (l : List Mz) (s L : Int), (∀ m ∈ l, m.k < 4294967296) → maySum l s = some L → ∃ l' : List Mi, l'.map Mi.z = l ∧ ∀ m ∈ l', MiOk m
  | [], _, _, _, _ => ⟨[], rfl, fun m h => by cases h⟩
  | m :: l, s, L, hk, h => by
    rw [maySum] at h
    split at h
    · rename_i ho
      obtain ⟨l', h1, h2⟩ := toMi l _ L (fun q hq => hk q (by simp [hq])) h
      unfold okM rgB at ho
      simp only [Bool.and_eq_true, decide_eq_true_eq] at ho
      have hkm := hk m (by simp)
      obtain ⟨o, a, b, c, k, n⟩ := m
      dsimp only at ho hkm
      refine ⟨⟨o, a.toNat, b.toNat, c.toNat, k, n⟩ :: l', ?_, fun q hq => ?_⟩
      · rw [List.map_cons, h1]
        congr 1
        show Mz.mk o (a.toNat : Int) (b.toNat : Int) (c.toNat : Int) k n = _
        rw [Int.toNat_of_nonneg (by omega), Int.toNat_of_nonneg (by omega), Int.toNat_of_nonneg (by omega)]
      · rcases List.mem_cons.1 hq with e | e
        · subst e; exact ⟨by dsimp only; omega, by dsimp only; omega, by dsimp only; omega, hkm⟩
        · exact h2 q e
    · cases h
theorem may0 (A : Nat) (L : Int) : mayV A L [] = false := mayV_len (.inl (by simp))
def ks6 : List SK := [.int, .int, .int, .int, .int, .int]
theorem eq6 (m : Mz) : eqCells ks6 m.C m.C = some true := by
  have e : ∀ (k : IntKind) (x : Int), k = .i64 ∨ k = .u32 → eqS .int (SV.int k x) (SV.int k x) = some true := fun k x h => by
    rcases h with rfl | rfl
    all_goals
      show some (x == x) = some true
      simp
  unfold Mz.C ks6
  simp only [eqCells, e _ _ (.inl rfl), e _ _ (.inr rfl), Bool.and_self]
def sbst (A : Nat) (L : Int) (N : Nat) (LL : List SV) (i : Nat) : St :=
  ⟨[(2, .a (.s (.ptr 2 0))), (3, .a (.s (.ptr 3 0))), (5, .a (.s (.int .i64 i)))],
   [(0, some ⟨false, 6, LL⟩), (1, some ⟨false, 6, LL⟩), (2, some ⟨true, 1, [.int .u32 A, .int .i64 L, .sl 0 0 N]⟩), (3, some ⟨true, 1, [.int .u32 A, .int .i64 L, .sl 1 0 N]⟩)], [0]⟩
set_option maxHeartbeats 600000 in
set_option maxRecDepth 100000 in
theorem sameblk_fn (A : Nat) (L : Int) (l : List Mz) (N : Nat) (hN : l.length = N) (hN2 : N ≤ 1000000) :
    Fn Try.prog 14 [.agg [.int .u32 A, .int .i64 L, .sl 0 0 N], .agg [.int .u32 A, .int .i64 L, .sl 1 0 N]] [⟨false, 6, mzs l⟩, ⟨false, 6, mzs l⟩] (· = ⟨.a (.s (.bool true)), [], []⟩) := by
  have hsc := mzs_scal l
  have hseg := mzs_seg l
  generalize hLL : mzs l = LL at *
  refine fn_of_vc mixed tys_ok _ _ Try.func14 (by kernel_rfl) rfl Try.ntmps14 (by rw [Try.results14]) rfl ?_; dsimp only [argTm, argHl, Nat.zero_add, Nat.reduceAdd, List.length_nil, List.length_cons]
  (repeat' ((conv => whnf); first | ((first | apply Br.mk | apply Gd.mk) <;> (intro hb; first | exact aK2 hb | (simp only [d1, d2, beq_iff_eq, bne_iff_ne, d3, d4, d5, d6, Int.not_lt, Int.not_le, ge_iff_le, gt_iff_lt, ne_eq, d7] at hb; first | (exfalso; omega) | skip) | skip))  |  (refine Eqs.mk _ (eqt_ok _ _ rfl _ _ _ rfl) ?_) | (with_reducible apply sd_draw; · kernel_rfl) | (apply Sd.mk; · exact aSd) | ((with_reducible apply Vl.mk (α := Int)); · exact aAr) | ((with_reducible first | apply Vl.mk (α := Bool) | apply Vl.mk (α := Nat) | apply Vl.mk (α := ByteArray) | apply Ge.mk (α := Row) | apply Ge.mk (α := SV) | apply Ge.mk (α := AV)); · exact rfl) | (refine And.intro rfl ?_) | ((with_reducible first | apply Vl.mk (α := List SV) | apply Vl.mk (α := Ef) | apply Vl.mk (α := TV) | apply Ge.mk (α := List SV) | apply Sg.mk | apply Sk.mk); · exact aCl) | ((first | apply Br.mk | apply Gd.mk) <;> (intro hb; first | exact aKl hb | (simp only [d1, d2, beq_iff_eq, bne_iff_ne, d3, d4, d5, d6, Int.not_lt, Int.not_le, ge_iff_le, gt_iff_lt, ne_eq, d7] at hb; first | (exfalso; omega) | skip) | skip)))); (all_goals (try (conv => whnf)))
  refine Lp.inv (fun mm σ => ∃ (i : Nat), mm + i = N ∧ σ = sbst A L N LL i) ?_ ?_
  · refine ⟨N, sbst A L N LL 0, ?_, 0, by omega, rfl⟩
    apply wk_of (m := [(0, some 0), (1, some 1), (2, some 65536), (3, some 65600)])
    · repeat' (first | exact tml_nil | apply tml_cons)
      all_goals first | exact tvm_a (avm_s (svm_same rfl)) | exact tvm_a (avm_s (svm_ptr rfl)) | exact tvm_a (avm_s (svm_sl rfl))
    · show HlS _ _ [] _
      refine hls_row (rowmt_mk rfl rfl rfl rfl (svsm_scal hsc)) ?_
      refine hls_row (rowmt_mk rfl rfl rfl rfl (svsm_scal hsc)) ?_
      refine hls_row (rowmt_mk rfl rfl rfl rfl (.cons (svm_same rfl) (.cons (svm_same rfl) (.cons (svm_sl rfl) .nil)))) ?_
      refine hls_row (rowmt_mk rfl rfl rfl rfl (.cons (svm_same rfl) (.cons (svm_same rfl) (.cons (svm_sl rfl) .nil)))) ?_
      exact hls_nil
    · rfl
  · rintro mm σ ⟨i, hmi, rfl⟩
    unfold sbst
    by_cases hiN : i < N
    · obtain ⟨m, hm⟩ : ∃ m, l[i]? = some m := ⟨l[i]'(by omega), List.getElem?_eq_getElem (by omega)⟩
      have seg := hseg i _ hm
      have he := eq6 m
      obtain ⟨o, a, b, c, k, n⟩ := m
      dsimp only [Mz.C] at seg he
      have q2 : IntKind.i64.wrap ((i : Int) + 1) = ((i + 1 : Nat) : Int) := by rw [wi64 (by omega) (by omega)]; omega
      have x1 : 0 + ((i : Nat) : Int).toNat * ty59.size = i * 6 := by show 0 + ((i : Nat) : Int).toNat * 6 = _; omega
      (repeat' ((conv => whnf); first | (refine Eqs.mk true (eqt_ok _ ks6 rfl _ _ _ (by with_reducible exact he)) ?_)  |  ((with_reducible apply Vl.mk (α := Int)); · with_reducible first | exact q2)  |  ((with_reducible apply Vl.mk (α := Nat)); · with_reducible exact x1)  |  (apply Sg.mk; · exact seg) | (with_reducible apply sd_draw; · kernel_rfl) | (apply Sd.mk; · exact aSd) | ((with_reducible apply Vl.mk (α := Int)); · exact aAr) | ((with_reducible first | apply Vl.mk (α := Bool) | apply Vl.mk (α := Nat) | apply Vl.mk (α := ByteArray) | apply Ge.mk (α := Row) | apply Ge.mk (α := SV) | apply Ge.mk (α := AV)); · exact rfl) | (refine And.intro rfl ?_) | ((with_reducible first | apply Vl.mk (α := List SV) | apply Vl.mk (α := Ef) | apply Vl.mk (α := TV) | apply Ge.mk (α := List SV) | apply Sg.mk | apply Sk.mk); · exact aCl) | ((first | apply Br.mk | apply Gd.mk) <;> (intro hb; first | exact aKl hb | (simp only [d1, d2, beq_iff_eq, bne_iff_ne, d3, d4, d5, d6, Int.not_lt, Int.not_le, ge_iff_le, gt_iff_lt, ne_eq, d7] at hb; first | (exfalso; omega) | skip) | skip)))); (all_goals (try (conv => whnf)))
      all_goals first
        | (refine ⟨mm - 1, sbst A L N LL (i + 1), by omega, ?_, i + 1, by omega, rfl⟩
           apply wk_of (m := [(0, some 0), (1, some 1), (2, some 2), (3, some 3)])
           · repeat' (first | exact tml_nil | apply tml_cons)
             all_goals first | exact tvm_a (avm_s (svm_same rfl)) | exact tvm_a (avm_s (svm_ptr rfl)) | exact tvm_a (avm_s (svm_sl rfl))
           · show HlS _ _ [] _
             refine hls_row (rowmt_mk rfl rfl rfl rfl (svsm_scal hsc)) ?_
             refine hls_row (rowmt_mk rfl rfl rfl rfl (svsm_scal hsc)) ?_
             refine hls_row (rowmt_mk rfl rfl rfl rfl (.cons (svm_same rfl) (.cons (svm_same rfl) (.cons (svm_sl rfl) .nil)))) ?_
             refine hls_row (rowmt_mk rfl rfl rfl rfl (.cons (svm_same rfl) (.cons (svm_same rfl) (.cons (svm_sl rfl) .nil)))) ?_
             exact hls_nil
           · rfl)
        | trace_state
    · (repeat' ((conv => whnf); first | (with_reducible apply sd_draw; · kernel_rfl) | (apply Sd.mk; · exact aSd) | ((with_reducible apply Vl.mk (α := Int)); · exact aAr) | ((with_reducible first | apply Vl.mk (α := Bool) | apply Vl.mk (α := Nat) | apply Vl.mk (α := ByteArray) | apply Ge.mk (α := Row) | apply Ge.mk (α := SV) | apply Ge.mk (α := AV)); · exact rfl) | (refine And.intro rfl ?_) | ((with_reducible first | apply Vl.mk (α := List SV) | apply Vl.mk (α := Ef) | apply Vl.mk (α := TV) | apply Ge.mk (α := List SV) | apply Sg.mk | apply Sk.mk); · exact aCl) | ((first | apply Br.mk | apply Gd.mk) <;> (intro hb; first | exact aKl hb | (simp only [d1, d2, beq_iff_eq, bne_iff_ne, d3, d4, d5, d6, Int.not_lt, Int.not_le, ge_iff_le, gt_iff_lt, ne_eq, d7] at hb; first | (exfalso; omega) | skip) | skip)))); (all_goals (try (conv => whnf)))
      all_goals first | ((apply Fin.mk (m := [(0, some 0), (1, some 1)]); (focus exact rfl); (all_goals ((try (show HlS _ _ [] _)); first | (exact aFi) | exact rfl)))) | trace_state
end Go.Proofs.Ytcaddlighhiepaa
