import Derived.Test.YtcaddlighhiepaaFrzA
import Derived.Test.YtcaddlighhiepaaFoA
import Derived.Test.YtcaddlighhiepaaLstA
/- Caches: rows of blocks whose operations no one writes; clone. -/
namespace Go.Proofs.Ytcaddlighhiepaa
open Go Go.RowKit
set_option linter.unusedSimpArgs false
set_option linter.unusedVariables false

structure Bk where
  (A : Nat) (L : Int) (l : List Mz)
/-- A block's cells. -/
def Bk.C (b : Bk) : List SV := [.int .u32 b.A, .int .i64 b.L, .fz 6 b.l.length (mzs b.l)]
def Bk.ok (b : Bk) : Prop := b.A < 4294967296 ∧ b.l.length ≤ 1000000 ∧ ∀ m ∈ b.l, m.k < 4294967296
def bks : List Bk → List SV
  | [] => []
  | e :: l => e.C ++ bks l
theorem bks_len : ∀ l : List Bk, (bks l).length = l.length * 3
  | [] => rfl
  | m :: l => by show (m.C ++ bks l).length = _; rw [List.length_append, bks_len l]; simp [Bk.C]; omega
theorem bks_scal : ∀ l : List Bk, allScal (bks l) = true
  | [] => rfl
  | m :: l => bks_scal l
theorem bks_known : ∀ l : List Bk, allKnown (bks l) = true
  | [] => rfl
  | m :: l => bks_known l
theorem bks_app : ∀ l l' : List Bk, bks (l ++ l') = bks l ++ bks l'
  | [], l' => rfl
  | m :: l, l' => by show m.C ++ bks (l ++ l') = (m.C ++ bks l) ++ bks l'; rw [bks_app l l', List.append_assoc]
theorem bks_at : ∀ (l : List Bk) (j : Nat) (m : Bk), l[j]? = some m → ∀ i, i < 3 → (bks l)[j * 3 + i]? = (m.C)[i]?
  | m' :: l, 0, m, h, i, hi => by
    injection h with h; subst h
    show (m'.C ++ bks l)[0 * 3 + i]? = _
    rw [Nat.zero_mul, Nat.zero_add, List.getElem?_append_left (by simp [Bk.C]; omega)]
  | m' :: l, j + 1, m, h, i, hi => by
    show (m'.C ++ bks l)[(j + 1) * 3 + i]? = _
    rw [List.getElem?_append_right (by simp [Bk.C]; omega)]
    have : (j + 1) * 3 + i - (m'.C).length = j * 3 + i := by simp [Bk.C]; omega
    rw [this]
    exact bks_at l j m (by simpa using h) i hi
theorem bks_seg (l : List Bk) (j : Nat) (m : Bk) (h : l[j]? = some m) : (m.C).length = 3 ∧ ∀ (i : Nat) s, (m.C)[i]? = some s → (bks l)[j * 3 + i]? = some s :=
  ⟨rfl, fun i s hs => by
    have hi : i < 3 := (List.getElem?_eq_some_iff.1 hs).1
    rw [bks_at l j m h i hi]; exact hs⟩
theorem mzs_flat : ∀ l : List Mz, flatAll (mzs l) = true
  | [] => rfl
  | m :: l => mzs_flat l
/-- slices.Clone of frozen operations. -/
theorem cloneF_fn (l : List Mz) (N : Nat) (hN : l.length = N) (hN2 : N ≤ 1000000) : Fn Try.prog 55 [.s (.fz 6 N (mzs l))] [] (· = ⟨.a (.s (.sl 0 0 N)), [], [⟨true, 6, mzs l⟩]⟩) := by
  have hs := mzs_scal l
  refine fn_thaw (H := []) (es := 6) (n := N) (cells := mzs l) (R' := ⟨.a (.s (.sl 0 0 N)), [], [⟨true, 6, mzs l⟩]⟩) [(0, some 1)] (cloneZ_fn l N hN hN2) (fun ρ vs h => hole_s (pre := []) (post := []) ρ vs h) ?_ ?_ rfl
  · exact tvm_a (avm_s (svm_sl rfl))
  · show HlS _ _ [] _
    refine hls_row (rowmt_mk (c := 1) (r := ⟨true, 6, mzs l⟩) rfl rfl rfl rfl (svsm_scal hs)) ?_
    exact hls_nil
set_option maxRecDepth 100000 in
theorem clone_fn (A : Nat) (L : Int) (l : List Mz) (N : Nat) (hN : l.length = N) (hN2 : N ≤ 1000000) : Fn Try.prog 35 [.agg [.int .u32 A, .int .i64 L, .fz 6 N (mzs l)]] [] (· = ⟨.a (.agg [.int .u32 A, .int .i64 L, .fz 6 N (mzs l)]), [], []⟩) := by
  have cc := cloneF_fn l N hN hN2
  have hs := mzs_scal l
  have hf := mzs_flat l
  generalize mzs l = M at *
  refine fn_of_vc mixed tys_ok _ _ Try.func35 (by kernel_rfl) rfl Try.ntmps35 (by rw [Try.results35]) rfl ?_; dsimp only [argTm, argHl, Nat.zero_add, Nat.reduceAdd, List.length_nil, List.length_cons]
  (repeat' ((conv => whnf); first | (refine vcall_det cc [] [] rfl trivial trivial ⟨rfl, noUp⟩ ?_) | ((with_reducible apply Vl.mk (α := Nat)); · exact aNt) | (with_reducible apply sd_draw; · kernel_rfl) | (apply Sd.mk; · exact aSd) | ((with_reducible apply Vl.mk (α := Int)); · exact aAr) | ((with_reducible first | apply Vl.mk (α := Bool) | apply Vl.mk (α := Nat) | apply Vl.mk (α := ByteArray) | apply Ge.mk (α := Row) | apply Ge.mk (α := SV) | apply Ge.mk (α := AV)); · exact rfl) | (refine And.intro rfl ?_) | ((with_reducible first | apply Vl.mk (α := List SV) | apply Vl.mk (α := Ef) | apply Vl.mk (α := TV) | apply Ge.mk (α := List SV) | apply Sg.mk | apply Sk.mk); · exact aCl) | ((first | apply Br.mk | apply Gd.mk) <;> (intro hb; first | exact aKl hb | (simp only [d1, d2, beq_iff_eq, bne_iff_ne, d3, d4, d5, d6, Int.not_lt, Int.not_le, ge_iff_le, gt_iff_lt, ne_eq, d7] at hb; first | (exfalso; omega) | skip) | skip)) | (apply Sd.mk; · exact aS2))); (all_goals (try (conv => whnf)))
  all_goals first | (refine Fin.fr (c := span * 2 + stride * 2) (es := 6) (cells := M) rfl hf ?_; (apply Fin.mk (m := []); (focus exact rfl); (all_goals ((try (show HlS _ _ [] _)); first | (exact aFi) | exact rfl)))) | trace_state
end Go.Proofs.Ytcaddlighhiepaa

/- Caches: add. -/
namespace Go.Proofs.Ytcaddlighhiepaa
open Go Go.RowKit
set_option linter.unusedSimpArgs false
set_option linter.unusedVariables false

theorem wsv_app (a b : List Nat) : wsv (a ++ b) = wsv a ++ wsv b := by unfold wsv; rw [List.map_append]
theorem wsv_len' (xs : List Nat) : (wsv xs).length = xs.length := by unfold wsv; rw [List.length_map]
set_option maxHeartbeats 1000000 in
set_option maxRecDepth 100000 in
theorem addU_fn (ks : List Nat) (vs : List Bk) (n : Nat) (hk : ks.length = n) (hv : vs.length = n) (hn : n ≤ 1000000) (k : Nat) (b : Bk) :
    Fn Try.prog 54 [.s (.ptr 0 0), .s (.int .u32 k), .agg b.C] [⟨true, 1, [.sl 1 0 n, .sl 2 0 n]⟩, ⟨true, 1, wsv ks⟩, ⟨true, 3, bks vs⟩]
      (· = ⟨.tup [], [(0, some ⟨true, 1, [.sl 3 0 (n + 1), .sl 4 0 (n + 1)]⟩), (1, none), (2, none)], [⟨true, 1, wsv (ks ++ [k])⟩, ⟨true, 3, bks (vs ++ [b])⟩]⟩) := by
  have h1 := wsv_scal ks
  have h2 := bks_scal vs
  have h3 := wsv_scal (ks ++ [k])
  have h4 := bks_scal (vs ++ [b])
  have l1 : (wsv ks).length = n := by rw [wsv_len', hk]
  have l2 : (bks vs).length = n * 3 := by rw [bks_len, hv]
  have a1 : wsv ks ++ [.int .u32 k] = wsv (ks ++ [k]) := by rw [wsv_app]; rfl
  have a2 : bks vs ++ b.C = bks (vs ++ [b]) := by rw [bks_app]; rfl
  obtain ⟨A, L, l⟩ := b
  dsimp only [Bk.C] at a2 ⊢
  generalize wsv (ks ++ [k]) = K2 at *
  generalize bks (vs ++ [⟨A, L, l⟩]) = V2 at *
  generalize wsv ks = K1 at *
  generalize bks vs = V1 at *
  generalize mzs l = M at *
  generalize l.length = NL at *
  refine fn_of_vc mixed tys_ok _ _ Try.func54 (by kernel_rfl) rfl Try.ntmps54 (by rw [Try.results54]) rfl ?_; dsimp only [argTm, argHl, Nat.zero_add, Nat.reduceAdd, List.length_nil, List.length_cons]
  (repeat' ((conv => whnf); first | (apply Sd.mk; · first | omega | (refine ⟨rfl, rfl, ?_, ?_, ?_⟩; (focus first | (show K1.length = n * 1; omega) | (show V1.length = n * 3; omega)); (focus first | (show (n + 1) * 4 ≤ _; omega) | (show (n + 1) * 40 ≤ _; omega) | (show (n + 1) * 48 ≤ _; omega)); (focus omega)))  |  ((with_reducible apply Vl.mk (α := List SV)); · first | with_reducible exact a1 | with_reducible exact a2 | exact a2) | ((with_reducible apply Vl.mk (α := Nat)); · exact aNt) | (with_reducible apply sd_draw; · kernel_rfl) | (apply Sd.mk; · exact aSd) | ((with_reducible apply Vl.mk (α := Int)); · exact aAr) | ((with_reducible first | apply Vl.mk (α := Bool) | apply Vl.mk (α := Nat) | apply Vl.mk (α := ByteArray) | apply Ge.mk (α := Row) | apply Ge.mk (α := SV) | apply Ge.mk (α := AV)); · exact rfl) | (refine And.intro rfl ?_) | ((with_reducible first | apply Vl.mk (α := List SV) | apply Vl.mk (α := Ef) | apply Vl.mk (α := TV) | apply Ge.mk (α := List SV) | apply Sg.mk | apply Sk.mk); · exact aCl) | ((first | apply Br.mk | apply Gd.mk) <;> (intro hb; first | exact aKl hb | (simp only [d1, d2, beq_iff_eq, bne_iff_ne, d3, d4, d5, d6, Int.not_lt, Int.not_le, ge_iff_le, gt_iff_lt, ne_eq, d7] at hb; first | (exfalso; omega) | skip) | skip)) | (apply Sd.mk; · exact aS2))); (all_goals (try (conv => whnf)))
  refine Fin.mk ⟨.tup [], [(0, some ⟨true, 1, [.sl 3 0 (n + 1), .sl 4 0 (n + 1)]⟩), (1, none), (2, none)], [⟨true, 1, K2⟩, ⟨true, 3, V2⟩]⟩ [(0, some 0), (1, some 1), (2, some 2), (3, some 131520), (4, some 197056)] rfl (tvm_tup avsm_nil) ?_ rfl
  show HlS _ _ [] _
  refine hls_row (rowmt_mk rfl rfl rfl rfl (svsm_scal h3)) ?_
  refine hls_row (rowmt_mk rfl rfl rfl rfl (svsm_scal h4)) ?_
  refine hls_row (rowmt_mk rfl rfl rfl rfl (.cons (svm_sl rfl) (.cons (svm_sl rfl) .nil))) ?_
  refine hls_none ?_
  refine hls_none ?_
  refine hls_skip rfl ?_
  refine hls_skip rfl ?_
  refine hls_skip rfl ?_
  exact hls_nil
set_option maxHeartbeats 1000000 in
set_option maxRecDepth 100000 in
theorem addI_fn (ks : List Int) (vs : List Bk) (n : Nat) (hk : ks.length = n) (hv : vs.length = n) (hn : n ≤ 1000000) (k : Int) (b : Bk) :
    Fn Try.prog 39 [.s (.ptr 0 0), .s (.int .i64 k), .agg b.C] [⟨true, 1, [.sl 1 0 n, .sl 2 0 n]⟩, ⟨true, 1, isv .i64 ks⟩, ⟨true, 3, bks vs⟩]
      (· = ⟨.tup [], [(0, some ⟨true, 1, [.sl 3 0 (n + 1), .sl 4 0 (n + 1)]⟩), (1, none), (2, none)], [⟨true, 1, isv .i64 (ks ++ [k])⟩, ⟨true, 3, bks (vs ++ [b])⟩]⟩) := by
  have h1 := isv_scal .i64 ks
  have h2 := bks_scal vs
  have h3 := isv_scal .i64 (ks ++ [k])
  have h4 := bks_scal (vs ++ [b])
  have l1 : (isv .i64 ks).length = n := by unfold isv; rw [List.length_map, hk]
  have l2 : (bks vs).length = n * 3 := by rw [bks_len, hv]
  have a1 : isv .i64 ks ++ [.int .i64 k] = isv .i64 (ks ++ [k]) := by unfold isv; rw [List.map_append]; rfl
  have a2 : bks vs ++ b.C = bks (vs ++ [b]) := by rw [bks_app]; rfl
  obtain ⟨A, L, l⟩ := b
  dsimp only [Bk.C] at a2 ⊢
  generalize isv .i64 (ks ++ [k]) = K2 at *
  generalize bks (vs ++ [⟨A, L, l⟩]) = V2 at *
  generalize isv .i64 ks = K1 at *
  generalize bks vs = V1 at *
  generalize mzs l = M at *
  generalize l.length = NL at *
  refine fn_of_vc mixed tys_ok _ _ Try.func39 (by kernel_rfl) rfl Try.ntmps39 (by rw [Try.results39]) rfl ?_; dsimp only [argTm, argHl, Nat.zero_add, Nat.reduceAdd, List.length_nil, List.length_cons]
  (repeat' ((conv => whnf); first | (apply Sd.mk; · first | omega | (refine ⟨rfl, rfl, ?_, ?_, ?_⟩; (focus first | (show K1.length = n * 1; omega) | (show V1.length = n * 3; omega)); (focus first | (show (n + 1) * 8 ≤ _; omega) | (show (n + 1) * 40 ≤ _; omega) | (show (n + 1) * 48 ≤ _; omega)); (focus omega)))  |  ((with_reducible apply Vl.mk (α := List SV)); · first | with_reducible exact a1 | with_reducible exact a2 | exact a2) | ((with_reducible apply Vl.mk (α := Nat)); · exact aNt) | (with_reducible apply sd_draw; · kernel_rfl) | (apply Sd.mk; · exact aSd) | ((with_reducible apply Vl.mk (α := Int)); · exact aAr) | ((with_reducible first | apply Vl.mk (α := Bool) | apply Vl.mk (α := Nat) | apply Vl.mk (α := ByteArray) | apply Ge.mk (α := Row) | apply Ge.mk (α := SV) | apply Ge.mk (α := AV)); · exact rfl) | (refine And.intro rfl ?_) | ((with_reducible first | apply Vl.mk (α := List SV) | apply Vl.mk (α := Ef) | apply Vl.mk (α := TV) | apply Ge.mk (α := List SV) | apply Sg.mk | apply Sk.mk); · exact aCl) | ((first | apply Br.mk | apply Gd.mk) <;> (intro hb; first | exact aKl hb | (simp only [d1, d2, beq_iff_eq, bne_iff_ne, d3, d4, d5, d6, Int.not_lt, Int.not_le, ge_iff_le, gt_iff_lt, ne_eq, d7] at hb; first | (exfalso; omega) | skip) | skip)) | (apply Sd.mk; · exact aS2))); (all_goals (try (conv => whnf)))
  refine Fin.mk ⟨.tup [], [(0, some ⟨true, 1, [.sl 3 0 (n + 1), .sl 4 0 (n + 1)]⟩), (1, none), (2, none)], [⟨true, 1, K2⟩, ⟨true, 3, V2⟩]⟩ [(0, some 0), (1, some 1), (2, some 2), (3, some 131520), (4, some 197056)] rfl (tvm_tup avsm_nil) ?_ rfl
  show HlS _ _ [] _
  refine hls_row (rowmt_mk rfl rfl rfl rfl (svsm_scal h3)) ?_
  refine hls_row (rowmt_mk rfl rfl rfl rfl (svsm_scal h4)) ?_
  refine hls_row (rowmt_mk rfl rfl rfl rfl (.cons (svm_sl rfl) (.cons (svm_sl rfl) .nil))) ?_
  refine hls_none ?_
  refine hls_none ?_
  refine hls_skip rfl ?_
  refine hls_skip rfl ?_
  refine hls_skip rfl ?_
  exact hls_nil
end Go.Proofs.Ytcaddlighhiepaa

/- Caches: byAddr. -/
namespace Go.Proofs.Ytcaddlighhiepaa
open Go Go.RowKit
set_option linter.unusedSimpArgs false
set_option linter.unusedVariables false

theorem rowM_ren {mm : List Em} {k n0 i n es : Nat} {cells cells' : List SV} (h : cells' = cells.map (renS mm k n0)) (ho : othB n i 0 mm = true) : RowM mm k n0 i ⟨n, 0⟩ ⟨true, es, cells⟩ ⟨true, es, cells'⟩ := by
  subst h
  exact ⟨rfl, fun q s hs => by simp only [] at hs ⊢; rw [Nat.zero_add, List.getElem?_map, hs]; rfl, by simp, fun _ => ⟨rfl, rfl, by simp, fun j f hj hne => oth_ok ho j f hj (by omega)⟩⟩
def ast (N i : Nat) (CC KW VV : List SV) : St :=
  ⟨[(2, .a (.s (.ptr 1 0))), (3, .a (.s (.ptr 2 0))), (6, .a (.s (.sl 0 0 N))), (7, .a (.s (.int .i64 N))), (8, .a (.s (.int .i64 i)))],
   [(0, some ⟨false, 3, CC⟩), (1, some ⟨true, 1, [.nilsl, .nilsl]⟩), (2, some ⟨true, 1, [.sl 3 0 i, .sl 4 0 i]⟩), (3, some ⟨true, 1, KW⟩), (4, some ⟨true, 3, VV⟩)], [0]⟩
set_option maxHeartbeats 1000000 in
set_option maxRecDepth 100000 in
theorem byAddr_fn (c : List Bk) (N : Nat) (hN : c.length = N) (hN2 : N ≤ 1000000) (hok : ∀ b ∈ c, b.ok) :
    Fn Try.prog 32 [.s (.sl 0 0 N)] [⟨false, 3, bks c⟩] (· = ⟨.a (.agg [.sl 1 0 N, .sl 2 0 N]), [], [⟨true, 1, wsv (c.map (·.A))⟩, ⟨true, 3, bks c⟩]⟩) := by
  have hs := bks_scal c
  have hsg := bks_seg c
  generalize hCC : bks c = CC at *
  refine fn_of_vc mixed tys_ok _ _ Try.func32 (by kernel_rfl) rfl Try.ntmps32 (by rw [Try.results32]) rfl ?_; dsimp only [argTm, argHl, Nat.zero_add, Nat.reduceAdd, List.length_nil, List.length_cons]
  (repeat' ((conv => whnf); first | (with_reducible apply sd_draw; · kernel_rfl) | (apply Sd.mk; · exact aSd) | ((with_reducible apply Vl.mk (α := Int)); · exact aAr) | ((with_reducible first | apply Vl.mk (α := Bool) | apply Vl.mk (α := Nat) | apply Vl.mk (α := ByteArray) | apply Ge.mk (α := Row) | apply Ge.mk (α := SV) | apply Ge.mk (α := AV)); · exact rfl) | (refine And.intro rfl ?_) | ((with_reducible first | apply Vl.mk (α := List SV) | apply Vl.mk (α := Ef) | apply Vl.mk (α := TV) | apply Ge.mk (α := List SV) | apply Sg.mk | apply Sk.mk); · exact aCl) | ((first | apply Br.mk | apply Gd.mk) <;> (intro hb; first | exact aKl hb | (simp only [d1, d2, beq_iff_eq, bne_iff_ne, d3, d4, d5, d6, Int.not_lt, Int.not_le, ge_iff_le, gt_iff_lt, ne_eq, d7] at hb; first | (exfalso; omega) | skip) | skip)))); (all_goals (try (conv => whnf)))
  refine Lp.inv (fun mm σ => ∃ i : Nat, mm + i = N ∧ σ = ast N i CC (wsv ((c.take i).map (·.A))) (bks (c.take i))) ?_ ?_
  · refine ⟨N, ast N 0 CC [] [], ?_, 0, by omega, rfl⟩

    (apply wk_of (m := [(0, some 0), (1, some _), (2, some _), (3, none), (4, none)]); (focus ((repeat' (first | exact tml_nil | apply tml_cons)); all_goals (exact aFi))); (focus ((show HlS _ _ [] _); (exact aFi))); (focus (first | exact rfl | rfl | kernel_rfl)))
  rintro mm σ ⟨i, hmi, rfl⟩
  unfold ast
  have h1 := wsv_scal ((c.take i).map (·.A))
  have h2 := bks_scal (c.take i)
  by_cases hi : i < N
  · obtain ⟨b, hb⟩ : ∃ b, c[i]? = some b := ⟨c[i]'(by omega), List.getElem?_eq_getElem (by omega)⟩
    have seg := hsg i b hb
    obtain ⟨hA, hl, hk⟩ := hok b (List.mem_of_getElem? hb)
    have ca := addU_fn ((c.take i).map (·.A)) (c.take i) i (by simp; omega) (by simp; omega) (by omega) b.A b
    rw [show (c.take i).map (·.A) ++ [b.A] = (c.take (i + 1)).map (·.A) by rw [← take_app c i b hb, List.map_append]; rfl, take_app c i b hb] at ca
    have h3 := wsv_scal ((c.take (i + 1)).map (·.A))
    have h4 := bks_scal (c.take (i + 1))
    have q2 : IntKind.i64.wrap ((i : Int) + 1) = ((i + 1 : Nat) : Int) := by rw [wi64 (by omega) (by omega)]; omega
    obtain ⟨A, L, l⟩ := b
    dsimp only [Bk.C] at ca seg
    have cl := clone_fn A L l _ rfl hl
    clear hk hb hsg
    generalize hK2 : wsv ((c.take (i + 1)).map (·.A)) = K2 at *
    generalize hV2 : bks (c.take (i + 1)) = V2 at *
    generalize wsv ((c.take i).map (·.A)) = K1 at *
    generalize bks (c.take i) = V1 at *
    generalize l.length = NL at *
    generalize mzs l = M at *
    (repeat' ((conv => whnf); first | ((with_reducible apply Vl.mk (α := Int)); · with_reducible first | exact q2)  |  (apply Sd.mk; · first | omega | (show (0 : Int) ≤ _ ∧ _ < _; omega))  |  (apply Sg.mk; · exact seg)  |  (refine vcall_pure (cl) rfl ?_)  |  (refine vcall_det ca [⟨2, 0⟩, ⟨3, 0⟩, ⟨4, 0⟩] [(2, ⟨true, 1, [.sl 3 0 i, .sl 4 0 i]⟩), (3, ⟨true, 1, K1⟩), (4, ⟨true, 3, V1⟩)] rfl ⟨rfl, rfl, rfl, trivial⟩ ⟨rfl, rowM_ren rfl rfl, rfl, rowM_hand (by assumption) rfl, rfl, rowM_hand (by assumption) rfl, trivial⟩ ⟨rfl, up_ok rfl⟩ ?_) | ((with_reducible apply Vl.mk (α := Nat)); · exact aNt) | (with_reducible apply sd_draw; · kernel_rfl) | (apply Sd.mk; · exact aSd) | ((with_reducible apply Vl.mk (α := Int)); · exact aAr) | ((with_reducible first | apply Vl.mk (α := Bool) | apply Vl.mk (α := Nat) | apply Vl.mk (α := ByteArray) | apply Ge.mk (α := Row) | apply Ge.mk (α := SV) | apply Ge.mk (α := AV)); · exact rfl) | (refine And.intro rfl ?_) | ((with_reducible first | apply Vl.mk (α := List SV) | apply Vl.mk (α := Ef) | apply Vl.mk (α := TV) | apply Ge.mk (α := List SV) | apply Sg.mk | apply Sk.mk); · exact aCl) | ((first | apply Br.mk | apply Gd.mk) <;> (intro hb; first | exact aKl hb | (simp only [d1, d2, beq_iff_eq, bne_iff_ne, d3, d4, d5, d6, Int.not_lt, Int.not_le, ge_iff_le, gt_iff_lt, ne_eq, d7] at hb; first | (exfalso; omega) | skip) | skip)) | (apply Sd.mk; · exact aS2))); (all_goals (try (conv => whnf)))
    all_goals first
      | (refine ⟨mm - 1, ast N (i + 1) CC K2 V2, by omega, ?_, i + 1, by omega, by rw [hK2, hV2]; rfl⟩
         (apply wk_of (m := [(0, some 0), (1, some 1), (2, some 2), (3, some 196864), (4, some 196865)]); (focus ((repeat' (first | exact tml_nil | apply tml_cons)); all_goals (exact aFi))); (focus ((show HlS _ _ [] _); (exact aFi))); (focus (first | exact rfl | rfl | kernel_rfl))))
      | trace_state
  · obtain rfl : i = N := by omega
    rw [List.take_of_length_le (by omega)] at h1 h2 ⊢
    rw [hCC] at h2 ⊢
    generalize wsv (c.map (·.A)) = K1 at *
    (repeat' ((conv => whnf); first | (with_reducible apply sd_draw; · kernel_rfl) | (apply Sd.mk; · exact aSd) | ((with_reducible apply Vl.mk (α := Int)); · exact aAr) | ((with_reducible first | apply Vl.mk (α := Bool) | apply Vl.mk (α := Nat) | apply Vl.mk (α := ByteArray) | apply Ge.mk (α := Row) | apply Ge.mk (α := SV) | apply Ge.mk (α := AV)); · exact rfl) | (refine And.intro rfl ?_) | ((with_reducible first | apply Vl.mk (α := List SV) | apply Vl.mk (α := Ef) | apply Vl.mk (α := TV) | apply Ge.mk (α := List SV) | apply Sg.mk | apply Sk.mk); · exact aCl) | ((first | apply Br.mk | apply Gd.mk) <;> (intro hb; first | exact aKl hb | (simp only [d1, d2, beq_iff_eq, bne_iff_ne, d3, d4, d5, d6, Int.not_lt, Int.not_le, ge_iff_le, gt_iff_lt, ne_eq, d7] at hb; first | (exfalso; omega) | skip) | skip)))); (all_goals (try (conv => whnf)))
    all_goals first | (apply Fin.mk (m := [(0, some 0), (1, some 3), (2, some 4)]); (focus exact rfl); (all_goals ((try (show HlS _ _ [] _)); first | (exact aFi) | exact rfl))) | trace_state
end Go.Proofs.Ytcaddlighhiepaa

/- Caches: Index, toFront. -/
namespace Go.Proofs.Ytcaddlighhiepaa
open Go Go.RowKit
set_option linter.unusedSimpArgs false
set_option linter.unusedVariables false

def idxU (x : Nat) : List Nat → Nat → Int
  | [], _ => -1
  | e :: l, i => if e = x then (i : Int) else idxU x l (i + 1)
def ixst (N i : Nat) (x : Nat) (KW : List SV) : St :=
  ⟨[(0, .a (.s (.sl 0 0 N))), (1, .a (.s (.int .u32 x))), (6, .a (.s (.sl 0 0 N))), (7, .a (.s (.int .i64 N))), (8, .a (.s (.int .i64 i)))], [(0, some ⟨false, 1, KW⟩)], [0]⟩
set_option maxRecDepth 100000 in
theorem index_fn (ks : List Nat) (N : Nat) (hN : ks.length = N) (hN2 : N ≤ 1000000) (x : Nat) :
    Fn Try.prog 33 [.s (.sl 0 0 N), .s (.int .u32 x)] [⟨false, 1, wsv ks⟩] (· = ⟨.a (.s (.int .i64 (idxU x ks 0))), [], []⟩) := by
  have hs := wsv_scal ks
  have hg := fun i (h : i < N) => wsv_get ks i (by omega)
  obtain ⟨c, hc⟩ : ∃ c, idxU x (ks.drop 0) 0 = c := ⟨_, rfl⟩
  rw [show idxU x ks 0 = c by rw [← hc, List.drop_zero]]
  generalize hKW : wsv ks = KW at *
  refine fn_of_vc mixed tys_ok _ _ Try.func33 (by kernel_rfl) rfl Try.ntmps33 (by rw [Try.results33]) rfl ?_; dsimp only [argTm, argHl, Nat.zero_add, Nat.reduceAdd, List.length_nil, List.length_cons]
  (repeat' ((conv => whnf); first | (with_reducible apply sd_draw; · kernel_rfl) | (apply Sd.mk; · exact aSd) | ((with_reducible apply Vl.mk (α := Int)); · exact aAr) | ((with_reducible first | apply Vl.mk (α := Bool) | apply Vl.mk (α := Nat) | apply Vl.mk (α := ByteArray) | apply Ge.mk (α := Row) | apply Ge.mk (α := SV) | apply Ge.mk (α := AV)); · exact rfl) | (refine And.intro rfl ?_) | ((with_reducible first | apply Vl.mk (α := List SV) | apply Vl.mk (α := Ef) | apply Vl.mk (α := TV) | apply Ge.mk (α := List SV) | apply Sg.mk | apply Sk.mk); · exact aCl) | ((first | apply Br.mk | apply Gd.mk) <;> (intro hb; first | exact aKl hb | (simp only [d1, d2, beq_iff_eq, bne_iff_ne, d3, d4, d5, d6, Int.not_lt, Int.not_le, ge_iff_le, gt_iff_lt, ne_eq, d7] at hb; first | (exfalso; omega) | skip) | skip)))); (all_goals (try (conv => whnf)))
  refine Lp.inv (fun mm σ => ∃ i : Nat, mm + i = N ∧ idxU x (ks.drop i) i = c ∧ σ = ixst N i x KW) ?_ ?_
  · refine ⟨N, ixst N 0 x KW, ?_, 0, by omega, hc, rfl⟩
    (apply wk_of (m := [(0, some 0)]); (focus ((repeat' (first | exact tml_nil | apply tml_cons)); all_goals (exact aFi))); (focus ((show HlS _ _ [] _); (exact aFi))); (focus (first | exact rfl | rfl | kernel_rfl)))
  rintro mm σ ⟨i, hmi, hinv, rfl⟩
  unfold ixst
  by_cases hi : i < N
  · have g0 := hg i hi
    have hd : ks.drop i = ks.getD i 0 :: ks.drop (i + 1) := by
      have : ks[i]? = some (ks.getD i 0) := by rw [List.getD_eq_getElem?_getD, List.getElem?_eq_getElem (by omega)]; rfl
      exact drop_cons ks i _ this
    rw [hd] at hinv
    change (if ks.getD i 0 = x then (i : Int) else idxU x (ks.drop (i + 1)) (i + 1)) = c at hinv
    have q2 : IntKind.i64.wrap ((i : Int) + 1) = ((i + 1 : Nat) : Int) := by rw [wi64 (by omega) (by omega)]; omega
    have x1 : 0 + ((i : Nat) : Int).toNat * ty24.size = i := by show 0 + ((i : Nat) : Int).toNat * 1 = _; omega
    generalize ks.getD i 0 = y at *
    by_cases hy : y = x
    · subst hy
      rw [if_pos rfl] at hinv
      subst hinv
      (repeat' ((conv => whnf); first | ((first | apply Br.mk | apply Gd.mk) <;> (intro hb; first | exact aK2 hb | (simp only [d1, d2, beq_iff_eq, bne_iff_ne, d3, d4, d5, d6, Int.not_lt, Int.not_le, ge_iff_le, gt_iff_lt, ne_eq, d7] at hb; first | (exfalso; omega) | skip) | skip))  |  (refine Eqs.mk _ (eqt_ok _ _ rfl _ _ _ rfl) ?_)  |  ((with_reducible apply Vl.mk (α := Int)); · with_reducible first | exact q2)  |  ((with_reducible apply Vl.mk (α := Nat)); · exact x1)  |  (apply Sd.mk; · first | omega | (show (0 : Int) ≤ _ ∧ _ < _; omega))  |  ((with_reducible apply Ge.mk (α := SV)); · exact g0) | ((with_reducible apply Vl.mk (α := Nat)); · exact aNt) | (with_reducible apply sd_draw; · kernel_rfl) | (apply Sd.mk; · exact aSd) | ((with_reducible apply Vl.mk (α := Int)); · exact aAr) | ((with_reducible first | apply Vl.mk (α := Bool) | apply Vl.mk (α := Nat) | apply Vl.mk (α := ByteArray) | apply Ge.mk (α := Row) | apply Ge.mk (α := SV) | apply Ge.mk (α := AV)); · exact rfl) | (refine And.intro rfl ?_) | ((with_reducible first | apply Vl.mk (α := List SV) | apply Vl.mk (α := Ef) | apply Vl.mk (α := TV) | apply Ge.mk (α := List SV) | apply Sg.mk | apply Sk.mk); · exact aCl) | ((first | apply Br.mk | apply Gd.mk) <;> (intro hb; first | exact aKl hb | (simp only [d1, d2, beq_iff_eq, bne_iff_ne, d3, d4, d5, d6, Int.not_lt, Int.not_le, ge_iff_le, gt_iff_lt, ne_eq, d7] at hb; first | (exfalso; omega) | skip) | skip)) | (apply Sd.mk; · exact aS2))); (all_goals (try (conv => whnf)))
      all_goals first | (apply Fin.mk (m := [(0, some 0)]); (focus exact rfl); (all_goals ((try (show HlS _ _ [] _)); first | (exact aFi) | exact rfl))) | trace_state
    · rw [if_neg hy] at hinv
      have hy2 : ¬ ((x : Nat) : Int) = (y : Int) := by omega
      (repeat' ((conv => whnf); first | ((first | apply Br.mk | apply Gd.mk) <;> (intro hb; first | exact aK2 hb | (simp only [d1, d2, beq_iff_eq, bne_iff_ne, d3, d4, d5, d6, Int.not_lt, Int.not_le, ge_iff_le, gt_iff_lt, ne_eq, d7] at hb; first | (exfalso; omega) | skip) | skip))  |  (refine Eqs.mk _ (eqt_ok _ _ rfl _ _ _ rfl) ?_)  |  ((with_reducible apply Vl.mk (α := Int)); · with_reducible first | exact q2)  |  ((with_reducible apply Vl.mk (α := Nat)); · exact x1)  |  (apply Sd.mk; · first | omega | (show (0 : Int) ≤ _ ∧ _ < _; omega))  |  ((with_reducible apply Ge.mk (α := SV)); · exact g0) | ((with_reducible apply Vl.mk (α := Nat)); · exact aNt) | (with_reducible apply sd_draw; · kernel_rfl) | (apply Sd.mk; · exact aSd) | ((with_reducible apply Vl.mk (α := Int)); · exact aAr) | ((with_reducible first | apply Vl.mk (α := Bool) | apply Vl.mk (α := Nat) | apply Vl.mk (α := ByteArray) | apply Ge.mk (α := Row) | apply Ge.mk (α := SV) | apply Ge.mk (α := AV)); · exact rfl) | (refine And.intro rfl ?_) | ((with_reducible first | apply Vl.mk (α := List SV) | apply Vl.mk (α := Ef) | apply Vl.mk (α := TV) | apply Ge.mk (α := List SV) | apply Sg.mk | apply Sk.mk); · exact aCl) | ((first | apply Br.mk | apply Gd.mk) <;> (intro hb; first | exact aKl hb | (simp only [d1, d2, beq_iff_eq, bne_iff_ne, d3, d4, d5, d6, Int.not_lt, Int.not_le, ge_iff_le, gt_iff_lt, ne_eq, d7] at hb; first | (exfalso; omega) | skip) | skip)) | (apply Sd.mk; · exact aS2))); (all_goals (try (conv => whnf)))
      all_goals first
        | (refine ⟨mm - 1, ixst N (i + 1) x KW, by omega, ?_, i + 1, by omega, hinv, rfl⟩
           (apply wk_of (m := [(0, some 0)]); (focus ((repeat' (first | exact tml_nil | apply tml_cons)); all_goals (exact aFi))); (focus ((show HlS _ _ [] _); (exact aFi))); (focus (first | exact rfl | rfl | kernel_rfl))))
        | trace_state
  · rw [List.drop_eq_nil_of_le (by omega)] at hinv
    change (-1 : Int) = c at hinv
    subst hinv
    (repeat' ((conv => whnf); first | (with_reducible apply sd_draw; · kernel_rfl) | (apply Sd.mk; · exact aSd) | ((with_reducible apply Vl.mk (α := Int)); · exact aAr) | ((with_reducible first | apply Vl.mk (α := Bool) | apply Vl.mk (α := Nat) | apply Vl.mk (α := ByteArray) | apply Ge.mk (α := Row) | apply Ge.mk (α := SV) | apply Ge.mk (α := AV)); · exact rfl) | (refine And.intro rfl ?_) | ((with_reducible first | apply Vl.mk (α := List SV) | apply Vl.mk (α := Ef) | apply Vl.mk (α := TV) | apply Ge.mk (α := List SV) | apply Sg.mk | apply Sk.mk); · exact aCl) | ((first | apply Br.mk | apply Gd.mk) <;> (intro hb; first | exact aKl hb | (simp only [d1, d2, beq_iff_eq, bne_iff_ne, d3, d4, d5, d6, Int.not_lt, Int.not_le, ge_iff_le, gt_iff_lt, ne_eq, d7] at hb; first | (exfalso; omega) | skip) | skip)))); (all_goals (try (conv => whnf)))
    all_goals first | (apply Fin.mk (m := [(0, some 0)]); (focus exact rfl); (all_goals ((try (show HlS _ _ [] _)); first | (exact aFi) | exact rfl))) | trace_state
def frontL {α : Type} (l : List α) (i : Nat) (e : α) : List α := e :: (l.take i ++ l.drop (i + 1))
theorem front_cells (l : List SV) (es i N : Nat) (hl : l.length = N * es) (hi : i < N) (e : List SV) (he : e.length = es) : setAll (setAll l es (l.take (i * es))) 0 e = e ++ (l.take (i * es) ++ l.drop ((i + 1) * es)) := by
  have h1 : (i + 1) * es ≤ N * es := Nat.mul_le_mul_right _ hi
  have h2 : (i + 1) * es = i * es + es := by rw [Nat.add_mul, Nat.one_mul]
  have ht : (l.take (i * es)).length = i * es := by rw [List.length_take]; omega
  apply List.ext_getElem?
  intro j
  have hlen : (setAll l es (l.take (i * es))).length = l.length := setAll_length _ _ _
  rw [setAll_get _ _ _ _ (by rw [hlen]; omega), setAll_get _ _ _ _ (by rw [ht]; omega)]
  by_cases a : j < es
  · rw [if_pos (by omega), List.getElem?_append_left (by omega), Nat.sub_zero]
  · rw [if_neg (by omega), List.getElem?_append_right (by omega), he]
    by_cases b : j < es + i * es
    · rw [if_pos (by omega), List.getElem?_append_left (by omega)]
    · rw [if_neg (by omega), List.getElem?_append_right (by omega), ht, List.getElem?_drop]
      congr 1; omega
theorem bks_take (l : List Bk) (i : Nat) (hi : i ≤ l.length) : bks (l.take i) = (bks l).take (i * 3) := by
  have e : bks l = bks (l.take i) ++ bks (l.drop i) := by rw [← bks_app, List.take_append_drop]
  rw [e, List.take_left' (by rw [bks_len, List.length_take]; congr 1; omega)]
theorem bks_drop (l : List Bk) (i : Nat) (hi : i ≤ l.length) : bks (l.drop i) = (bks l).drop (i * 3) := by
  have e : bks l = bks (l.take i) ++ bks (l.drop i) := by rw [← bks_app, List.take_append_drop]
  rw [e, List.drop_left' (by rw [bks_len, List.length_take]; congr 1; omega)]
theorem bks_front (l : List Bk) (i : Nat) (e : Bk) (he : l[i]? = some e) : setAll (setAll (bks l) 3 ((bks l).take (i * 3))) 0 e.C = bks (frontL l i e) := by
  have hi : i < l.length := (List.getElem?_eq_some_iff.1 he).1
  rw [front_cells (bks l) 3 i l.length (bks_len l) hi e.C rfl, ← bks_take l i (by omega), ← bks_drop l (i + 1) (by omega), ← bks_app]
  rfl
theorem wsv_front (l : List Nat) (i e : Nat) (he : l[i]? = some e) : setAll (setAll (wsv l) 1 ((wsv l).take (i * 1))) 0 [.int .u32 e] = wsv (frontL l i e) := by
  have hi : i < l.length := (List.getElem?_eq_some_iff.1 he).1
  rw [front_cells (wsv l) 1 i l.length (by rw [wsv_len']; omega) hi _ rfl]
  unfold wsv frontL
  rw [List.map_cons, List.map_append, List.map_take, List.map_drop, Nat.mul_one, Nat.mul_one]
  rfl
set_option maxHeartbeats 2000000 in
set_option maxRecDepth 100000 in
theorem toFront_fn (ks : List Nat) (vs : List Bk) (n : Nat) (hk : ks.length = n) (hv : vs.length = n) (hn : n ≤ 1000000) (i k : Nat) (b : Bk) (hi : ks[i]? = some k) (hb : vs[i]? = some b) :
    Fn Try.prog 34 [.s (.ptr 0 0), .s (.int .i64 i)] [⟨true, 1, [.sl 1 0 n, .sl 2 0 n]⟩, ⟨true, 1, wsv ks⟩, ⟨true, 3, bks vs⟩]
      (· = ⟨.tup [], [(1, some ⟨true, 1, wsv (frontL ks i k)⟩), (2, some ⟨true, 3, bks (frontL vs i b)⟩)], []⟩) := by
  have hin : i < n := by rw [← hk]; exact (List.getElem?_eq_some_iff.1 hi).1
  have hf1 := wsv_front ks i k hi
  have hf2 := bks_front vs i b hb
  have h1 := wsv_scal (frontL ks i k)
  have h2 := bks_scal (frontL vs i b)
  have k1 := wsv_known ks
  have k2 := bks_known vs
  have l1 : (wsv ks).length = n := by rw [wsv_len', hk]
  have l2 : (bks vs).length = n * 3 := by rw [bks_len, hv]
  have seg := bks_seg vs i b hb
  have g0 : (wsv ks)[i]? = some (.int .u32 k) := by unfold wsv; rw [List.getElem?_map, hi]; rfl
  have q1 : IntKind.i64.wrap ((i : Int) + 1) = ((i + 1 : Nat) : Int) := by rw [wi64 (by omega) (by omega)]; omega
  obtain ⟨A, L, l⟩ := b
  dsimp only [Bk.C] at seg hf2
  generalize wsv (frontL ks i k) = KF at *
  generalize bks (frontL vs i ⟨A, L, l⟩) = VF at *
  generalize wsv ks = K1 at *
  generalize bks vs = V1 at *
  generalize mzs l = M at *
  generalize l.length = NL at *
  have m1 : min i (((i + 1 : Nat) : Int) - 1).toNat = i := by omega
  have s1 : (K1.take (i * 1)).length = min i (((i + 1 : Nat) : Int) - 1).toNat * ty24.size ∧ allKnown (K1.take (i * 1)) = true ∧ ∀ (j : Nat) s, (K1.take (i * 1))[j]? = some s → K1[0 + j]? = some s :=
    ⟨by rw [m1, List.length_take]; show min (i * 1) K1.length = i * 1; omega, allKnown_take k1 _, fun j s hs => by rw [List.getElem?_take] at hs; split at hs; (rw [Nat.zero_add]; exact hs); cases hs⟩
  have s2 : (V1.take (i * 3)).length = min i (((i + 1 : Nat) : Int) - 1).toNat * ty27.size ∧ allKnown (V1.take (i * 3)) = true ∧ ∀ (j : Nat) s, (V1.take (i * 3))[j]? = some s → V1[0 + j]? = some s :=
    ⟨by rw [m1, List.length_take]; show min (i * 3) V1.length = i * 3; omega, allKnown_take k2 _, fun j s hs => by rw [List.getElem?_take] at hs; split at hs; (rw [Nat.zero_add]; exact hs); cases hs⟩
  have d1 : true = true ∧ 1 + (K1.take (i * 1)).length ≤ K1.length := ⟨rfl, by rw [List.length_take]; omega⟩
  have d2 : true = true ∧ 3 + (V1.take (i * 3)).length ≤ V1.length := ⟨rfl, by rw [List.length_take]; omega⟩
  have d3 : (0 : Int) ≤ 0 ∧ (0 : Int) < (n : Int) := by omega
  have d4 : (0 : Int) ≤ i ∧ (i : Int) < (n : Int) := by omega
  have d5 : 0 + 1 ≤ (setAll K1 1 (K1.take (i * 1))).length := by rw [setAll_length]; omega
  have d6 : 0 + 3 ≤ (setAll V1 3 (V1.take (i * 3))).length := by rw [setAll_length]; omega
  refine fn_of_vc mixed tys_ok _ _ Try.func34 (by kernel_rfl) rfl Try.ntmps34 (by rw [Try.results34]) rfl ?_; dsimp only [argTm, argHl, Nat.zero_add, Nat.reduceAdd, List.length_nil, List.length_cons]
  (repeat' ((conv => whnf); first | ((with_reducible apply Vl.mk (α := Int)); · with_reducible first | exact q1)  |  ((with_reducible apply Ge.mk (α := SV)); · exact g0)  |  (apply Sg.mk; · exact seg)  |  (apply Sk.mk; · first | exact s1 | exact s2)  |  (apply Sd.mk; · first | omega | exact d1 | exact d2 | exact d3 | exact d4 | (refine ⟨rfl, rfl, rfl, ?_⟩; first | exact d5 | exact d6))  |  ((with_reducible apply Vl.mk (α := List SV)); · first | exact hf1 | exact hf2) | ((with_reducible apply Vl.mk (α := Nat)); · exact aNt) | (with_reducible apply sd_draw; · kernel_rfl) | (apply Sd.mk; · exact aSd) | ((with_reducible apply Vl.mk (α := Int)); · exact aAr) | ((with_reducible first | apply Vl.mk (α := Bool) | apply Vl.mk (α := Nat) | apply Vl.mk (α := ByteArray) | apply Ge.mk (α := Row) | apply Ge.mk (α := SV) | apply Ge.mk (α := AV)); · exact rfl) | (refine And.intro rfl ?_) | ((with_reducible first | apply Vl.mk (α := List SV) | apply Vl.mk (α := Ef) | apply Vl.mk (α := TV) | apply Ge.mk (α := List SV) | apply Sg.mk | apply Sk.mk); · exact aCl) | ((first | apply Br.mk | apply Gd.mk) <;> (intro hb; first | exact aKl hb | (simp only [d1, d2, beq_iff_eq, bne_iff_ne, d3, d4, d5, d6, Int.not_lt, Int.not_le, ge_iff_le, gt_iff_lt, ne_eq, d7] at hb; first | (exfalso; omega) | skip) | skip)) | (apply Sd.mk; · exact aS2))); (all_goals (try (conv => whnf)))
  all_goals first | (apply Fin.mk (m := [(0, some 0), (1, some 1), (2, some 2)]); (focus exact rfl); (all_goals ((try (show HlS _ _ [] _)); first | (exact aFi) | exact rfl))) | trace_state
end Go.Proofs.Ytcaddlighhiepaa

/- Caches: without. -/
namespace Go.Proofs.Ytcaddlighhiepaa
open Go Go.RowKit
set_option linter.unusedSimpArgs false
set_option linter.unusedVariables false

theorem filter_take {α : Type} (p : α → Bool) (l : List α) (i : Nat) (e : α) (h : l[i]? = some e) : (l.take (i + 1)).filter p = if p e = true then (l.take i).filter p ++ [e] else (l.take i).filter p := by
  rw [← take_app l i e h, List.filter_append]
  cases hp : p e with
  | true => rw [if_pos rfl, List.filter_cons_of_pos hp, List.filter_nil]
  | false => rw [if_neg (by decide), List.filter_cons_of_neg (by rw [hp]; decide), List.filter_nil, List.append_nil]
def wost (n r x i : Nat) (K0 V0 KW VV : List SV) : St :=
  ⟨[(0, .a (.s (.ptr 0 0))), (1, .a (.s (.int .u32 x))), (4, .a (.s (.ptr 3 0))), (5, .a (.s (.ptr 4 0))), (11, .a (.s (.sl 1 0 n))), (12, .a (.s (.int .i64 n))), (13, .a (.s (.int .i64 i)))],
   [(0, some ⟨false, 1, [.sl 1 0 n, .sl 2 0 n]⟩), (1, some ⟨false, 1, K0⟩), (2, some ⟨false, 3, V0⟩), (3, some ⟨true, 1, [.nilsl, .nilsl]⟩), (4, some ⟨true, 1, [.sl 5 0 r, .sl 6 0 r]⟩), (5, some ⟨true, 1, KW⟩), (6, some ⟨true, 3, VV⟩)], [0]⟩
set_option maxHeartbeats 2000000 in
set_option maxRecDepth 100000 in
theorem withoutU_fn (vs : List Bk) (n : Nat) (hv : vs.length = n) (hn : n ≤ 1000000) (x : Nat) (W : List Bk) (hW : vs.filter (fun b => decide (b.A ≠ x)) = W) (r : Nat) (hr : W.length = r) :
    Fn Try.prog 37 [.s (.ptr 0 0), .s (.int .u32 x)] [⟨false, 1, [.sl 1 0 n, .sl 2 0 n]⟩, ⟨false, 1, wsv (vs.map (·.A))⟩, ⟨false, 3, bks vs⟩]
      (· = ⟨.a (.agg [.sl 3 0 r, .sl 4 0 r]), [], [⟨true, 1, wsv (W.map (·.A))⟩, ⟨true, 3, bks W⟩]⟩) := by
  have hs1 := wsv_scal (vs.map (·.A))
  have hs2 := bks_scal vs
  have hsg := bks_seg vs
  have hg := fun i (h : i < n) => wsv_get (vs.map (·.A)) i (by simp; omega)
  generalize hK0 : wsv (vs.map (·.A)) = K0 at *
  generalize hV0 : bks vs = V0 at *
  refine fn_of_vc mixed tys_ok _ _ Try.func37 (by kernel_rfl) rfl Try.ntmps37 (by rw [Try.results37]) rfl ?_; dsimp only [argTm, argHl, Nat.zero_add, Nat.reduceAdd, List.length_nil, List.length_cons]
  (repeat' ((conv => whnf); first | (with_reducible apply sd_draw; · kernel_rfl) | (apply Sd.mk; · exact aSd) | ((with_reducible apply Vl.mk (α := Int)); · exact aAr) | ((with_reducible first | apply Vl.mk (α := Bool) | apply Vl.mk (α := Nat) | apply Vl.mk (α := ByteArray) | apply Ge.mk (α := Row) | apply Ge.mk (α := SV) | apply Ge.mk (α := AV)); · exact rfl) | (refine And.intro rfl ?_) | ((with_reducible first | apply Vl.mk (α := List SV) | apply Vl.mk (α := Ef) | apply Vl.mk (α := TV) | apply Ge.mk (α := List SV) | apply Sg.mk | apply Sk.mk); · exact aCl) | ((first | apply Br.mk | apply Gd.mk) <;> (intro hb; first | exact aKl hb | (simp only [d1, d2, beq_iff_eq, bne_iff_ne, d3, d4, d5, d6, Int.not_lt, Int.not_le, ge_iff_le, gt_iff_lt, ne_eq, d7] at hb; first | (exfalso; omega) | skip) | skip)))); (all_goals (try (conv => whnf)))
  refine Lp.inv (fun mm σ => ∃ (i : Nat) (w : List Bk), mm + i = n ∧ (vs.take i).filter (fun b => decide (b.A ≠ x)) = w ∧ w.length ≤ i ∧ σ = wost n w.length x i K0 V0 (wsv (w.map (·.A))) (bks w)) ?_ ?_
  · refine ⟨n, wost n 0 x 0 K0 V0 [] [], ?_, 0, [], by omega, rfl, Nat.le_refl _, rfl⟩
    (apply wk_of (m := [(0, some 0), (1, some 1), (2, some 2), (3, some _), (4, some _), (5, none), (6, none)]); (focus ((repeat' (first | exact tml_nil | apply tml_cons)); all_goals (exact aFi))); (focus ((show HlS _ _ [] _); (exact aFi))); (focus (first | exact rfl | rfl | kernel_rfl)))
  rintro mm σ ⟨i, w, hmi, hw, hwl, rfl⟩
  unfold wost
  have h1 := wsv_scal (w.map (·.A))
  have h2 := bks_scal w
  by_cases hi : i < n
  · obtain ⟨b, hb⟩ : ∃ b, vs[i]? = some b := ⟨vs[i]'(by omega), List.getElem?_eq_getElem (by omega)⟩
    have seg := hsg i b hb
    have g0 := hg i hi
    rw [show (vs.map (·.A)).getD i 0 = b.A by rw [List.getD_eq_getElem?_getD, List.getElem?_map, hb]; rfl] at g0
    have hft := filter_take (fun b => decide (b.A ≠ x)) vs i b hb
    rw [hw] at hft
    have q2 : IntKind.i64.wrap ((i : Int) + 1) = ((i + 1 : Nat) : Int) := by rw [wi64 (by omega) (by omega)]; omega
    have x1 : 0 + ((i : Nat) : Int).toNat * ty24.size = i := by show 0 + ((i : Nat) : Int).toNat * 1 = _; omega
    have x3 : 0 + ((i : Nat) : Int).toNat * ty27.size = i * 3 := by show 0 + ((i : Nat) : Int).toNat * 3 = _; omega
    by_cases hc : b.A = x
    · rw [if_neg (by rw [decide_eq_true_eq]; exact fun h => h hc)] at hft
      have hci : ((b.A : Nat) : Int) = (x : Int) := by omega
      generalize b.A = A at *
      clear hsg hg seg hb
      generalize hK1 : wsv (w.map (·.A)) = K1 at *
      generalize hV1 : bks w = V1 at *
      (repeat' ((conv => whnf); first | ((first | apply Br.mk | apply Gd.mk) <;> (intro hb; first | exact aK2 hb | (simp only [d1, d2, beq_iff_eq, bne_iff_ne, d3, d4, d5, d6, Int.not_lt, Int.not_le, ge_iff_le, gt_iff_lt, ne_eq, d7] at hb; first | (exfalso; omega) | skip) | skip))  |  (refine Eqs.mk _ (eqt_ok _ _ rfl _ _ _ rfl) ?_)  |  ((with_reducible apply Vl.mk (α := Int)); · with_reducible first | exact q2)  |  ((with_reducible apply Vl.mk (α := Nat)); · first | exact x1 | exact x3)  |  (apply Sd.mk; · first | omega | (show (0 : Int) ≤ _ ∧ _ < _; omega))  |  ((with_reducible apply Ge.mk (α := SV)); · exact g0) | ((with_reducible apply Vl.mk (α := Nat)); · exact aNt) | (with_reducible apply sd_draw; · kernel_rfl) | (apply Sd.mk; · exact aSd) | ((with_reducible apply Vl.mk (α := Int)); · exact aAr) | ((with_reducible first | apply Vl.mk (α := Bool) | apply Vl.mk (α := Nat) | apply Vl.mk (α := ByteArray) | apply Ge.mk (α := Row) | apply Ge.mk (α := SV) | apply Ge.mk (α := AV)); · exact rfl) | (refine And.intro rfl ?_) | ((with_reducible first | apply Vl.mk (α := List SV) | apply Vl.mk (α := Ef) | apply Vl.mk (α := TV) | apply Ge.mk (α := List SV) | apply Sg.mk | apply Sk.mk); · exact aCl) | ((first | apply Br.mk | apply Gd.mk) <;> (intro hb; first | exact aKl hb | (simp only [d1, d2, beq_iff_eq, bne_iff_ne, d3, d4, d5, d6, Int.not_lt, Int.not_le, ge_iff_le, gt_iff_lt, ne_eq, d7] at hb; first | (exfalso; omega) | skip) | skip)) | (apply Sd.mk; · exact aS2))); (all_goals (try (conv => whnf)))
      all_goals first
        | (refine ⟨mm - 1, wost n w.length x (i + 1) K0 V0 K1 V1, by omega, ?_, i + 1, w, by omega, hft, by omega, by rw [hK1, hV1]; try rfl⟩
           (apply wk_of (m := [(0, some 0), (1, some 1), (2, some 2), (3, some 3), (4, some 4), (5, some 5), (6, some 6)]); (focus ((repeat' (first | exact tml_nil | apply tml_cons)); all_goals (exact aFi))); (focus ((show HlS _ _ [] _); (exact aFi))); (focus (first | exact rfl | rfl | kernel_rfl))))
        | trace_state
    · rw [if_pos (by rw [decide_eq_true_eq]; exact hc)] at hft
      have hci : ¬ ((b.A : Nat) : Int) = (x : Int) := by omega
      have ca := addU_fn (w.map (·.A)) w w.length (by simp) rfl (by omega) b.A b
      rw [show w.map (·.A) ++ [b.A] = (w ++ [b]).map (·.A) by rw [List.map_append]; rfl] at ca
      have h3 := wsv_scal ((w ++ [b]).map (·.A))
      have h4 := bks_scal (w ++ [b])
      have hl2 : (w ++ [b]).length = w.length + 1 := by simp
      clear hsg hg hb
      obtain ⟨A, L, l⟩ := b
      dsimp only [Bk.C] at ca seg hci g0
      generalize hw2 : w ++ [(⟨A, L, l⟩ : Bk)] = w2 at *
      generalize hK2 : wsv (w2.map (·.A)) = K2 at *
      generalize hV2 : bks w2 = V2 at *
      generalize wsv (w.map (·.A)) = K1 at *
      generalize bks w = V1 at *
      generalize w.length = R at *
      generalize l.length = NL at *
      generalize mzs l = M at *
      (repeat' ((conv => whnf); first | ((first | apply Br.mk | apply Gd.mk) <;> (intro hb; first | exact aK2 hb | (simp only [d1, d2, beq_iff_eq, bne_iff_ne, d3, d4, d5, d6, Int.not_lt, Int.not_le, ge_iff_le, gt_iff_lt, ne_eq, d7] at hb; first | (exfalso; omega) | skip) | skip))  |  (refine Eqs.mk _ (eqt_ok _ _ rfl _ _ _ rfl) ?_)  |  ((with_reducible apply Vl.mk (α := Int)); · with_reducible first | exact q2)  |  ((with_reducible apply Vl.mk (α := Nat)); · first | exact x1 | exact x3)  |  (apply Sd.mk; · first | omega | (show (0 : Int) ≤ _ ∧ _ < _; omega))  |  ((with_reducible apply Ge.mk (α := SV)); · exact g0)  |  (apply Sg.mk; · exact seg)  |  (refine vcall_det ca [⟨4, 0⟩, ⟨5, 0⟩, ⟨6, 0⟩] [(4, ⟨true, 1, [.sl 5 0 R, .sl 6 0 R]⟩), (5, ⟨true, 1, K1⟩), (6, ⟨true, 3, V1⟩)] rfl ⟨rfl, rfl, rfl, trivial⟩ ⟨rfl, rowM_ren rfl rfl, rfl, rowM_hand (by assumption) rfl, rfl, rowM_hand (by assumption) rfl, trivial⟩ ⟨rfl, up_ok rfl⟩ ?_) | ((with_reducible apply Vl.mk (α := Nat)); · exact aNt) | (with_reducible apply sd_draw; · kernel_rfl) | (apply Sd.mk; · exact aSd) | ((with_reducible apply Vl.mk (α := Int)); · exact aAr) | ((with_reducible first | apply Vl.mk (α := Bool) | apply Vl.mk (α := Nat) | apply Vl.mk (α := ByteArray) | apply Ge.mk (α := Row) | apply Ge.mk (α := SV) | apply Ge.mk (α := AV)); · exact rfl) | (refine And.intro rfl ?_) | ((with_reducible first | apply Vl.mk (α := List SV) | apply Vl.mk (α := Ef) | apply Vl.mk (α := TV) | apply Ge.mk (α := List SV) | apply Sg.mk | apply Sk.mk); · exact aCl) | ((first | apply Br.mk | apply Gd.mk) <;> (intro hb; first | exact aKl hb | (simp only [d1, d2, beq_iff_eq, bne_iff_ne, d3, d4, d5, d6, Int.not_lt, Int.not_le, ge_iff_le, gt_iff_lt, ne_eq, d7] at hb; first | (exfalso; omega) | skip) | skip)) | (apply Sd.mk; · exact aS2))); (all_goals (try (conv => whnf)))
      all_goals first
        | (refine ⟨mm - 1, wost n (R + 1) x (i + 1) K0 V0 K2 V2, by omega, ?_, i + 1, w2, by omega, hft, by omega, by rw [hK2, hV2, hl2]; rfl⟩
           (apply wk_of (m := [(0, some 0), (1, some 1), (2, some 2), (3, some 3), (4, some 4), (5, some 262656), (6, some 262657)]); (focus ((repeat' (first | exact tml_nil | apply tml_cons)); all_goals (exact aFi))); (focus ((show HlS _ _ [] _); (exact aFi))); (focus (first | exact rfl | rfl | kernel_rfl))))
        | trace_state
  · rw [List.take_of_length_le (by omega), hW] at hw
    subst hw
    subst hr
    generalize wsv (W.map (·.A)) = K1 at *
    generalize bks W = V1 at *
    (repeat' ((conv => whnf); first | (with_reducible apply sd_draw; · kernel_rfl) | (apply Sd.mk; · exact aSd) | ((with_reducible apply Vl.mk (α := Int)); · exact aAr) | ((with_reducible first | apply Vl.mk (α := Bool) | apply Vl.mk (α := Nat) | apply Vl.mk (α := ByteArray) | apply Ge.mk (α := Row) | apply Ge.mk (α := SV) | apply Ge.mk (α := AV)); · exact rfl) | (refine And.intro rfl ?_) | ((with_reducible first | apply Vl.mk (α := List SV) | apply Vl.mk (α := Ef) | apply Vl.mk (α := TV) | apply Ge.mk (α := List SV) | apply Sg.mk | apply Sk.mk); · exact aCl) | ((first | apply Br.mk | apply Gd.mk) <;> (intro hb; first | exact aKl hb | (simp only [d1, d2, beq_iff_eq, bne_iff_ne, d3, d4, d5, d6, Int.not_lt, Int.not_le, ge_iff_le, gt_iff_lt, ne_eq, d7] at hb; first | (exfalso; omega) | skip) | skip)))); (all_goals (try (conv => whnf)))
    all_goals first | (apply Fin.mk (m := [(0, some 0), (1, some 1), (2, some 2), (3, some 5), (4, some 6)]); (focus exact rfl); (all_goals ((try (show HlS _ _ [] _)); first | (exact aFi) | exact rfl))) | trace_state
end Go.Proofs.Ytcaddlighhiepaa

/- Caches: Insert, Find. -/
namespace Go.Proofs.Ytcaddlighhiepaa
open Go Go.RowKit
set_option linter.unusedSimpArgs false
set_option linter.unusedVariables false

theorem mayF_fn (A : Nat) (hA : A < 4294967296) (L : Int) (l : List Mz) (N : Nat) (hN : l.length = N) (hN2 : N ≤ 1000000) : Fn Try.prog 36 [.agg [.int .u32 A, .int .i64 L, .fz 6 N (mzs l)]] [] (· = ⟨.a (.s (.bool (mayV A L l))), [], []⟩) := by
  refine fn_thaw (H := []) (es := 6) (n := N) (cells := mzs l) (R' := ⟨.a (.s (.bool (mayV A L l))), [], []⟩) [] (may_fn A hA L l N hN hN2) (fun ρ vs h => hole_a (pre := []) (post := []) (l1 := [.int .u32 A, .int .i64 L]) (l2 := []) ρ vs h) ?_ ?_ rfl
  · exact tvm_a (avm_s (svm_same rfl))
  · exact hls_nil
theorem rowM_rn0 {mm : List Em} {k n0 i n es : Nat} {own : Bool} {cells cells' : List SV} (h : cells' = cells.map (renS mm k n0)) : RowM mm k n0 i ⟨n, 0⟩ ⟨false, es, cells⟩ ⟨own, es, cells'⟩ := by
  subst h
  exact ⟨rfl, fun q s hs => by simp only [] at hs ⊢; rw [Nat.zero_add, List.getElem?_map, hs]; rfl, by simp, fun h => by cases h⟩
/-- The cache with a block inserted. -/
def insL (c : List Bk) (b : Bk) : List Bk := if mayV b.A b.L b.l = true then b :: (c.filter (fun e => decide (e.A ≠ b.A))).take 15 else c
set_option maxHeartbeats 4000000 in
set_option maxRecDepth 100000 in
theorem insert_fn (c : List Bk) (N : Nat) (hN : c.length = N) (hN2 : N ≤ 1000000) (hok : ∀ e ∈ c, e.ok) (b : Bk) (hb : b.ok) (I : List Bk) (hI : insL c b = I) (K : Nat) (hK : I.length = K) :
    Fn Try.prog 16 [.s (.sl 0 0 N), .agg b.C] [⟨false, 3, bks c⟩] (· = ⟨.a (.s (.sl 1 0 K)), [], [⟨true, 3, bks I⟩]⟩) := by
  have cb := byAddr_fn c N hN hN2 hok
  have cm := mayF_fn b.A hb.1 b.L b.l _ rfl hb.2.1
  have cl := clone_fn b.A b.L b.l _ rfl hb.2.1
  have s1 := bks_scal c
  have s2 := wsv_scal (c.map (·.A))
  unfold insL at hI
  by_cases hm : mayV b.A b.L b.l = true
  · rw [if_pos hm] at hI
    rw [hm] at cm
    obtain ⟨W, hW⟩ : ∃ W, c.filter (fun e => decide (e.A ≠ b.A)) = W := ⟨_, rfl⟩
    rw [hW] at hI
    have hWl : W.length ≤ N := by rw [← hW, ← hN]; exact List.length_filter_le _ _
    have cw := withoutU_fn c N hN hN2 b.A W hW W.length rfl
    have s3 := bks_scal W
    have s4 := wsv_scal (W.map (·.A))
    have l3 := bks_len W
    have k3 := bks_known W
    have s5 := bks_scal I
    subst hI
    obtain ⟨A, L, l⟩ := b
    dsimp only [Bk.C] at *
    by_cases h15 : 15 < W.length
    · have happ : [.int .u32 A, .int .i64 L, .fz 6 l.length (mzs l)] ++ (bks W).take (15 * 3) = bks ((⟨A, L, l⟩ : Bk) :: W.take 15) := by
        rw [← bks_take W 15 (by omega)]; rfl
      have hK2 : K = 16 := by rw [← hK]; simp; omega
      subst hK2
      have sk : ((bks W).take (15 * 3)).length = 15 * ty27.size ∧ allKnown ((bks W).take (15 * 3)) = true ∧ ∀ (j : Nat) s, ((bks W).take (15 * 3))[j]? = some s → (bks W)[0 + j]? = some s :=
        ⟨by rw [List.length_take]; show min (15 * 3) _ = 45; omega, allKnown_take k3 _, fun j s hs => by rw [List.getElem?_take] at hs; split at hs; (rw [Nat.zero_add]; exact hs); cases hs⟩
      generalize bks ((⟨A, L, l⟩ : Bk) :: W.take 15) = IV at *
      generalize bks W = WV at *
      generalize wsv (W.map (·.A)) = WK at *
      generalize wsv (c.map (·.A)) = CK at *
      generalize bks c = CV at *
      generalize W.length = R at *
      generalize l.length = NL at *
      generalize mzs l = M at *
      refine fn_of_vc mixed tys_ok _ _ Try.func16 (by kernel_rfl) rfl Try.ntmps16 (by rw [Try.results16]) rfl ?_; dsimp only [argTm, argHl, Nat.zero_add, Nat.reduceAdd, List.length_nil, List.length_cons]
      (repeat' ((conv => whnf); first | ((first | apply Br.mk | apply Gd.mk) <;> (intro hb; first | exact aK2 hb | (simp only [d1, d2, beq_iff_eq, bne_iff_ne, d3, d4, d5, d6, Int.not_lt, Int.not_le, ge_iff_le, gt_iff_lt, ne_eq, d7] at hb; first | (exfalso; omega) | skip) | skip))  |  (refine Eqs.mk _ (eqt_ok _ _ rfl _ _ _ rfl) ?_)  |  (refine vcall_det (cb) [⟨_, 0⟩] [(_, _)] rfl ⟨rfl, trivial⟩ ⟨rfl, rowM_ro (by assumption), trivial⟩ ⟨rfl, up_ok rfl⟩ ?_)  |  (refine vcall_pure (cm) rfl ?_)  |  (refine vcall_pure (cl) rfl ?_)  |  (refine vcall_det cw [⟨131200, 0⟩, ⟨131136, 0⟩, ⟨131137, 0⟩] [(131200, ⟨true, 1, [.sl 131136 0 N, .sl 131137 0 N]⟩), (131136, ⟨true, 1, CK⟩), (131137, ⟨true, 3, CV⟩)] rfl ⟨rfl, rfl, rfl, trivial⟩ ⟨rfl, rowM_rn0 rfl, rfl, rowM_ro (by assumption), rfl, rowM_ro (by assumption), trivial⟩ ⟨rfl, noUp⟩ ?_)  |  (apply Sk.mk; · exact sk)  |  (apply Sd.mk; · first | omega)  |  ((with_reducible apply Vl.mk (α := List SV)); · exact happ) | ((with_reducible apply Vl.mk (α := Nat)); · exact aNt) | (with_reducible apply sd_draw; · kernel_rfl) | (apply Sd.mk; · exact aSd) | ((with_reducible apply Vl.mk (α := Int)); · exact aAr) | ((with_reducible first | apply Vl.mk (α := Bool) | apply Vl.mk (α := Nat) | apply Vl.mk (α := ByteArray) | apply Ge.mk (α := Row) | apply Ge.mk (α := SV) | apply Ge.mk (α := AV)); · exact rfl) | (refine And.intro rfl ?_) | ((with_reducible first | apply Vl.mk (α := List SV) | apply Vl.mk (α := Ef) | apply Vl.mk (α := TV) | apply Ge.mk (α := List SV) | apply Sg.mk | apply Sk.mk); · exact aCl) | ((first | apply Br.mk | apply Gd.mk) <;> (intro hb; first | exact aKl hb | (simp only [d1, d2, beq_iff_eq, bne_iff_ne, d3, d4, d5, d6, Int.not_lt, Int.not_le, ge_iff_le, gt_iff_lt, ne_eq, d7] at hb; first | (exfalso; omega) | skip) | skip)) | (apply Sd.mk; · exact aS2))); (all_goals (try (conv => whnf)))
      all_goals first | (apply Fin.mk (m := [(0, some 0), (1, some _)]); (focus exact rfl); (all_goals ((try (show HlS _ _ [] _)); first | (exact aFi) | exact rfl))) | trace_state
    · have ht : W.take 15 = W := List.take_of_length_le (by omega)
      rw [ht] at hK s5 ⊢
      have happ : [.int .u32 A, .int .i64 L, .fz 6 l.length (mzs l)] ++ bks W = bks ((⟨A, L, l⟩ : Bk) :: W) := rfl
      have hK2 : K = 1 + W.length := by rw [← hK]; simp; omega
      subst hK2
      have sk : (bks W).length = W.length * ty27.size ∧ allKnown (bks W) = true ∧ ∀ (j : Nat) s, (bks W)[j]? = some s → (bks W)[0 + j]? = some s :=
        ⟨l3, k3, fun j s hs => by rw [Nat.zero_add]; exact hs⟩
      clear hK
      generalize bks ((⟨A, L, l⟩ : Bk) :: W) = IV at *
      generalize bks W = WV at *
      generalize wsv (W.map (·.A)) = WK at *
      generalize wsv (c.map (·.A)) = CK at *
      generalize bks c = CV at *
      generalize W.length = R at *
      generalize l.length = NL at *
      generalize mzs l = M at *
      refine fn_of_vc mixed tys_ok _ _ Try.func16 (by kernel_rfl) rfl Try.ntmps16 (by rw [Try.results16]) rfl ?_; dsimp only [argTm, argHl, Nat.zero_add, Nat.reduceAdd, List.length_nil, List.length_cons]
      (repeat' ((conv => whnf); first | ((first | apply Br.mk | apply Gd.mk) <;> (intro hb; first | exact aK2 hb | (simp only [d1, d2, beq_iff_eq, bne_iff_ne, d3, d4, d5, d6, Int.not_lt, Int.not_le, ge_iff_le, gt_iff_lt, ne_eq, d7] at hb; first | (exfalso; omega) | skip) | skip))  |  (refine Eqs.mk _ (eqt_ok _ _ rfl _ _ _ rfl) ?_)  |  (refine vcall_det (cb) [⟨_, 0⟩] [(_, _)] rfl ⟨rfl, trivial⟩ ⟨rfl, rowM_ro (by assumption), trivial⟩ ⟨rfl, up_ok rfl⟩ ?_)  |  (refine vcall_pure (cm) rfl ?_)  |  (refine vcall_pure (cl) rfl ?_)  |  (refine vcall_det cw [⟨131200, 0⟩, ⟨131136, 0⟩, ⟨131137, 0⟩] [(131200, ⟨true, 1, [.sl 131136 0 N, .sl 131137 0 N]⟩), (131136, ⟨true, 1, CK⟩), (131137, ⟨true, 3, CV⟩)] rfl ⟨rfl, rfl, rfl, trivial⟩ ⟨rfl, rowM_rn0 rfl, rfl, rowM_ro (by assumption), rfl, rowM_ro (by assumption), trivial⟩ ⟨rfl, noUp⟩ ?_)  |  (apply Sk.mk; · exact sk)  |  (apply Sd.mk; · first | omega)  |  ((with_reducible apply Vl.mk (α := List SV)); · exact happ) | ((with_reducible apply Vl.mk (α := Nat)); · exact aNt) | (with_reducible apply sd_draw; · kernel_rfl) | (apply Sd.mk; · exact aSd) | ((with_reducible apply Vl.mk (α := Int)); · exact aAr) | ((with_reducible first | apply Vl.mk (α := Bool) | apply Vl.mk (α := Nat) | apply Vl.mk (α := ByteArray) | apply Ge.mk (α := Row) | apply Ge.mk (α := SV) | apply Ge.mk (α := AV)); · exact rfl) | (refine And.intro rfl ?_) | ((with_reducible first | apply Vl.mk (α := List SV) | apply Vl.mk (α := Ef) | apply Vl.mk (α := TV) | apply Ge.mk (α := List SV) | apply Sg.mk | apply Sk.mk); · exact aCl) | ((first | apply Br.mk | apply Gd.mk) <;> (intro hb; first | exact aKl hb | (simp only [d1, d2, beq_iff_eq, bne_iff_ne, d3, d4, d5, d6, Int.not_lt, Int.not_le, ge_iff_le, gt_iff_lt, ne_eq, d7] at hb; first | (exfalso; omega) | skip) | skip)) | (apply Sd.mk; · exact aS2))); (all_goals (try (conv => whnf)))
      all_goals first | (apply Fin.mk (m := [(0, some 0), (1, some _)]); (focus exact rfl); (all_goals ((try (show HlS _ _ [] _)); first | (exact aFi) | exact rfl))) | trace_state
  · rw [if_neg hm] at hI
    subst hI
    rw [Bool.not_eq_true] at hm
    rw [hm] at cm
    obtain rfl : N = K := by omega
    obtain ⟨A, L, l⟩ := b
    dsimp only [Bk.C] at *
    generalize wsv (c.map (·.A)) = CK at *
    generalize bks c = CV at *
    generalize l.length = NL at *
    generalize mzs l = M at *
    refine fn_of_vc mixed tys_ok _ _ Try.func16 (by kernel_rfl) rfl Try.ntmps16 (by rw [Try.results16]) rfl ?_; dsimp only [argTm, argHl, Nat.zero_add, Nat.reduceAdd, List.length_nil, List.length_cons]
    (repeat' ((conv => whnf); first | ((first | apply Br.mk | apply Gd.mk) <;> (intro hb; first | exact aK2 hb | (simp only [d1, d2, beq_iff_eq, bne_iff_ne, d3, d4, d5, d6, Int.not_lt, Int.not_le, ge_iff_le, gt_iff_lt, ne_eq, d7] at hb; first | (exfalso; omega) | skip) | skip))  |  (refine Eqs.mk _ (eqt_ok _ _ rfl _ _ _ rfl) ?_)  |  (refine vcall_det (cb) [⟨_, 0⟩] [(_, _)] rfl ⟨rfl, trivial⟩ ⟨rfl, rowM_ro (by assumption), trivial⟩ ⟨rfl, up_ok rfl⟩ ?_)  |  (refine vcall_pure (cm) rfl ?_)  |  (refine vcall_pure (cl) rfl ?_) | ((with_reducible apply Vl.mk (α := Nat)); · exact aNt) | (with_reducible apply sd_draw; · kernel_rfl) | (apply Sd.mk; · exact aSd) | ((with_reducible apply Vl.mk (α := Int)); · exact aAr) | ((with_reducible first | apply Vl.mk (α := Bool) | apply Vl.mk (α := Nat) | apply Vl.mk (α := ByteArray) | apply Ge.mk (α := Row) | apply Ge.mk (α := SV) | apply Ge.mk (α := AV)); · exact rfl) | (refine And.intro rfl ?_) | ((with_reducible first | apply Vl.mk (α := List SV) | apply Vl.mk (α := Ef) | apply Vl.mk (α := TV) | apply Ge.mk (α := List SV) | apply Sg.mk | apply Sk.mk); · exact aCl) | ((first | apply Br.mk | apply Gd.mk) <;> (intro hb; first | exact aKl hb | (simp only [d1, d2, beq_iff_eq, bne_iff_ne, d3, d4, d5, d6, Int.not_lt, Int.not_le, ge_iff_le, gt_iff_lt, ne_eq, d7] at hb; first | (exfalso; omega) | skip) | skip)) | (apply Sd.mk; · exact aS2))); (all_goals (try (conv => whnf)))
    all_goals first | (apply Fin.mk (m := [(0, some 0), (1, some _)]); (focus exact rfl); (all_goals ((try (show HlS _ _ [] _)); first | (exact aFi) | exact rfl))) | trace_state
end Go.Proofs.Ytcaddlighhiepaa

/- Caches: Find. -/
namespace Go.Proofs.Ytcaddlighhiepaa
open Go Go.RowKit
set_option linter.unusedSimpArgs false
set_option linter.unusedVariables false

theorem idxU_found (x : Nat) : ∀ (c : List Bk) (k : Nat), (∃ b ∈ c, b.A = x) → ∃ (i : Nat) (b : Bk), idxU x (c.map (·.A)) k = ((k + i : Nat) : Int) ∧ c[i]? = some b ∧ b.A = x
  | [], k, h => by obtain ⟨b, hb, _⟩ := h; cases hb
  | e :: l, k, h => by
    by_cases he : e.A = x
    · exact ⟨0, e, by show (if e.A = x then _ else _) = _; rw [if_pos he]; rfl, rfl, he⟩
    · obtain ⟨b, hb, hx⟩ := h
      have : ∃ b ∈ l, b.A = x := by
        rcases List.mem_cons.1 hb with rfl | hb
        · exact absurd hx he
        · exact ⟨b, hb, hx⟩
      obtain ⟨i, b, h1, h2, h3⟩ := idxU_found x l (k + 1) this
      refine ⟨i + 1, b, ?_, h2, h3⟩
      show (if e.A = x then _ else idxU x (l.map (·.A)) (k + 1)) = _
      rw [if_neg he, h1]
      congr 1; omega
theorem idxU_none (x : Nat) : ∀ (c : List Bk) (k : Nat), (¬ ∃ b ∈ c, b.A = x) → idxU x (c.map (·.A)) k = -1
  | [], k, h => rfl
  | e :: l, k, h => by
    have h1 : e.A ≠ x := fun h2 => h ⟨e, List.mem_cons_self, h2⟩
    show (if e.A = x then _ else idxU x (l.map (·.A)) (k + 1)) = _
    rw [if_neg h1]
    exact idxU_none x l (k + 1) fun ⟨b, hb, h2⟩ => h ⟨b, List.mem_cons_of_mem _ hb, h2⟩
set_option maxHeartbeats 2000000 in
set_option maxRecDepth 100000 in
theorem find_no (c : List Bk) (N : Nat) (hN : c.length = N) (hN2 : N ≤ 1000000) (hok : ∀ e ∈ c, e.ok) (x : Nat) (hi : idxU x (c.map (·.A)) 0 = -1) :
    Fn Try.prog 12 [.s (.sl 0 0 N), .s (.int .u32 x)] [⟨false, 3, bks c⟩] (· = ⟨.tup [.agg [.int .u32 (0 : Nat), .int .i64 0, .fz 6 0 []], .s (.sl 1 0 N), .s (.bool false)], [], [⟨true, 3, bks c⟩]⟩) := by
  have cb := byAddr_fn c N hN hN2 hok
  have ci := index_fn (c.map (·.A)) N (by simp; omega) hN2 x
  rw [hi] at ci
  have s1 := bks_scal c
  have s2 := wsv_scal (c.map (·.A))
  generalize wsv (c.map (·.A)) = CK at *
  generalize bks c = CV at *
  refine fn_of_vc mixed tys_ok _ _ Try.func12 (by kernel_rfl) rfl Try.ntmps12 (by rw [Try.results12]) rfl ?_; dsimp only [argTm, argHl, Nat.zero_add, Nat.reduceAdd, List.length_nil, List.length_cons]
  (repeat' ((conv => whnf); first | ((first | apply Br.mk | apply Gd.mk) <;> (intro hb; first | exact aK2 hb | (simp only [d1, d2, beq_iff_eq, bne_iff_ne, d3, d4, d5, d6, Int.not_lt, Int.not_le, ge_iff_le, gt_iff_lt, ne_eq, d7] at hb; first | (exfalso; omega) | skip) | skip))  |  (refine Eqs.mk _ (eqt_ok _ _ rfl _ _ _ rfl) ?_)  |  (refine vcall_det (cb) [⟨_, 0⟩] [(_, _)] rfl ⟨rfl, trivial⟩ ⟨rfl, rowM_ro (by assumption), trivial⟩ ⟨rfl, up_ok rfl⟩ ?_)  |  (refine vcall_det (ci) [⟨_, 0⟩] [(_, _)] rfl ⟨rfl, trivial⟩ ⟨rfl, rowM_ro (by assumption), trivial⟩ ⟨rfl, up_ok rfl⟩ ?_) | ((with_reducible apply Vl.mk (α := Nat)); · exact aNt) | (with_reducible apply sd_draw; · kernel_rfl) | (apply Sd.mk; · exact aSd) | ((with_reducible apply Vl.mk (α := Int)); · exact aAr) | ((with_reducible first | apply Vl.mk (α := Bool) | apply Vl.mk (α := Nat) | apply Vl.mk (α := ByteArray) | apply Ge.mk (α := Row) | apply Ge.mk (α := SV) | apply Ge.mk (α := AV)); · exact rfl) | (refine And.intro rfl ?_) | ((with_reducible first | apply Vl.mk (α := List SV) | apply Vl.mk (α := Ef) | apply Vl.mk (α := TV) | apply Ge.mk (α := List SV) | apply Sg.mk | apply Sk.mk); · exact aCl) | ((first | apply Br.mk | apply Gd.mk) <;> (intro hb; first | exact aKl hb | (simp only [d1, d2, beq_iff_eq, bne_iff_ne, d3, d4, d5, d6, Int.not_lt, Int.not_le, ge_iff_le, gt_iff_lt, ne_eq, d7] at hb; first | (exfalso; omega) | skip) | skip)) | (apply Sd.mk; · exact aS2))); (all_goals (try (conv => whnf)))
  all_goals first
    | (refine Fin.mk ⟨.tup [.agg [.int .u32 (0 : Nat), .int .i64 0, .fz 6 0 []], .s (.sl 1 0 N), .s (.bool false)], [], [⟨true, 3, CV⟩]⟩ [(0, some 0), (1, some 131137)] rfl (tvm_tup (avsm_cons (avm_agg (.cons (svm_same rfl) (.cons (svm_same rfl) (.cons svm_fznil .nil)))) (avsm_cons (avm_s (svm_sl rfl)) (avsm_cons (avm_s (svm_same rfl)) avsm_nil)))) ?_ rfl
       show HlS _ _ [] _
       refine hls_row (rowmt_mk rfl rfl rfl rfl (svsm_scal s1)) ?_
       refine hls_row (rowmt_mk rfl rfl rfl rfl (svsm_scal s1)) ?_
       exact hls_nil)
    | trace_state
set_option maxHeartbeats 2000000 in
set_option maxRecDepth 100000 in
theorem find_hit (c : List Bk) (N : Nat) (hN : c.length = N) (hN2 : N ≤ 1000000) (hok : ∀ e ∈ c, e.ok) (x : Nat) (i : Nat) (b : Bk) (hb : c[i]? = some b) (hi : idxU x (c.map (·.A)) 0 = (i : Int)) :
    Fn Try.prog 12 [.s (.sl 0 0 N), .s (.int .u32 x)] [⟨false, 3, bks c⟩] (· = ⟨.tup [.agg b.C, .s (.sl 1 0 N), .s (.bool true)], [], [⟨true, 3, bks (frontL c i b)⟩]⟩) := by
  have cb := byAddr_fn c N hN hN2 hok
  have ci := index_fn (c.map (·.A)) N (by simp; omega) hN2 x
  rw [hi] at ci
  have ct := toFront_fn (c.map (·.A)) c N (by simp; omega) hN hN2 i b.A b (by rw [List.getElem?_map, hb]; rfl) hb
  obtain ⟨hA, hl, hk⟩ := hok b (List.mem_of_getElem? hb)
  have cl := clone_fn b.A b.L b.l _ rfl hl
  have hi0 : i < N := by rw [← hN]; exact (List.getElem?_eq_some_iff.1 hb).1
  have seg := bks_seg (frontL c i b) 0 b rfl
  have s1 := bks_scal c
  have s2 := wsv_scal (c.map (·.A))
  have s3 := bks_scal (frontL c i b)
  have s4 := wsv_scal (frontL (c.map (·.A)) i b.A)
  obtain ⟨A, L, l⟩ := b
  dsimp only [Bk.C] at seg cl ct ⊢
  clear hb hi
  generalize wsv (frontL (c.map (·.A)) i A) = FK at *
  generalize bks (frontL c i ⟨A, L, l⟩) = FV at *
  generalize wsv (c.map (·.A)) = CK at *
  generalize bks c = CV at *
  generalize l.length = NL at *
  generalize mzs l = M at *
  refine fn_of_vc mixed tys_ok _ _ Try.func12 (by kernel_rfl) rfl Try.ntmps12 (by rw [Try.results12]) rfl ?_; dsimp only [argTm, argHl, Nat.zero_add, Nat.reduceAdd, List.length_nil, List.length_cons]
  (repeat' ((conv => whnf); first | ((first | apply Br.mk | apply Gd.mk) <;> (intro hb; first | exact aK2 hb | (simp only [d1, d2, beq_iff_eq, bne_iff_ne, d3, d4, d5, d6, Int.not_lt, Int.not_le, ge_iff_le, gt_iff_lt, ne_eq, d7] at hb; first | (exfalso; omega) | skip) | skip))  |  (refine Eqs.mk _ (eqt_ok _ _ rfl _ _ _ rfl) ?_)  |  (refine vcall_det (cb) [⟨_, 0⟩] [(_, _)] rfl ⟨rfl, trivial⟩ ⟨rfl, rowM_ro (by assumption), trivial⟩ ⟨rfl, up_ok rfl⟩ ?_)  |  (refine vcall_det (ci) [⟨_, 0⟩] [(_, _)] rfl ⟨rfl, trivial⟩ ⟨rfl, rowM_ro (by assumption), trivial⟩ ⟨rfl, up_ok rfl⟩ ?_)  |  (refine vcall_det ct [⟨131200, 0⟩, ⟨131136, 0⟩, ⟨131137, 0⟩] [(131200, ⟨true, 1, [.sl 131136 0 N, .sl 131137 0 N]⟩), (131136, ⟨true, 1, CK⟩), (131137, ⟨true, 3, CV⟩)] rfl ⟨rfl, rfl, rfl, trivial⟩ ⟨rfl, rowM_ren rfl rfl, rfl, rowM_hand (by assumption) rfl, rfl, rowM_hand (by assumption) rfl, trivial⟩ ⟨rfl, up_ok rfl⟩ ?_)  |  (refine vcall_pure (cl) rfl ?_)  |  (apply Sg.mk; · exact seg)  |  (apply Sd.mk; · first | omega | (show (0 : Int) ≤ _ ∧ _ < _; omega)) | ((with_reducible apply Vl.mk (α := Nat)); · exact aNt) | (with_reducible apply sd_draw; · kernel_rfl) | (apply Sd.mk; · exact aSd) | ((with_reducible apply Vl.mk (α := Int)); · exact aAr) | ((with_reducible first | apply Vl.mk (α := Bool) | apply Vl.mk (α := Nat) | apply Vl.mk (α := ByteArray) | apply Ge.mk (α := Row) | apply Ge.mk (α := SV) | apply Ge.mk (α := AV)); · exact rfl) | (refine And.intro rfl ?_) | ((with_reducible first | apply Vl.mk (α := List SV) | apply Vl.mk (α := Ef) | apply Vl.mk (α := TV) | apply Ge.mk (α := List SV) | apply Sg.mk | apply Sk.mk); · exact aCl) | ((first | apply Br.mk | apply Gd.mk) <;> (intro hb; first | exact aKl hb | (simp only [d1, d2, beq_iff_eq, bne_iff_ne, d3, d4, d5, d6, Int.not_lt, Int.not_le, ge_iff_le, gt_iff_lt, ne_eq, d7] at hb; first | (exfalso; omega) | skip) | skip)) | (apply Sd.mk; · exact aS2))); (all_goals (try (conv => whnf)))
  all_goals first | (apply Fin.mk (m := [(0, some 0), (1, some 131137)]); (focus exact rfl); (all_goals ((try (show HlS _ _ [] _)); first | (exact aFi) | exact rfl))) | trace_state
end Go.Proofs.Ytcaddlighhiepaa

/- A contract said again: the rule of consequence, with freezing. -/
namespace Go.Proofs.Ytcaddlighhiepaa
open Go Go.RowKit
set_option linter.unusedSimpArgs false
set_option linter.unusedVariables false

theorem fin_conc {H : List Row} {Post : Res → Prop} {σ : St} {x : TV} (h : Fin H Post σ x) : ∀ {ρ0 ρ1 : Nm} {F : Fr} {w : World} {v : Value}, (∀ n, H.length ≤ n → ρ0 n = none) → Ext ρ0 ρ1 → Conc F ρ1 (hpG σ.h) w → VT ρ1 x v →
    ∃ (R : Res) (ρ' : Nm), Post R ∧ Ext ρ0 ρ' ∧ (∀ n, H.length + R.nw.length ≤ n → ρ' n = none) ∧ VT ρ' R.v v ∧ Conc F ρ' (R.app H) w ∧
      (∀ p ∈ R.up, ∃ r, H[p.1]? = some r ∧ r.own = true) ∧ (∀ r ∈ R.nw, r.own = true) ∧ (∀ p ∈ R.up, ∀ r, p.2 = some r → r.own = true) := by
  induction h with
  | mk R m g1 g2 g3 g4 =>
    intro ρ0 ρ1 F w v hd hx hc hv
    rw [Bool.and_eq_true, Bool.and_eq_true, Bool.and_eq_true] at g4
    obtain ⟨⟨⟨g5, g6⟩, g7⟩, g8⟩ := g4
    have hup := upOk_ok g5
    refine ⟨R, mapN m ρ1, g1, map_ext (G := ⟨ρ0, H.length⟩) g7 rfl hd hx, fun n hn => ?_, tvm_ok hv g2, ?_, fun p hp => (hup p hp).1, nwOk_ok g6, fun p hp => (hup p hp).2⟩
    · rw [mapN_eq]
      cases e : look m n with
      | none => rfl
      | some x =>
        have := List.all_eq_true.1 g8 _ (look_mem e)
        simp at this; omega
    · rw [← finL_ok R H (fun p hp => by obtain ⟨r, hr, _⟩ := (hup p hp).1; exact (List.getElem?_eq_some_iff.1 hr).1)]
      exact conc_map hc (hll_ok g3)
  | fr hn hf h ih =>
    intro ρ0 ρ1 F w v hd hx hc hv
    obtain ⟨hes, h0, hc2⟩ := conc_fr hc hn hf
    exact ih hd (hx.trans (frN_ext _ _ _)) hc2 (vt_fr hes h0 hv)
theorem fn_re {P : Program} {f : FuncId} {args : List AV} {H : List Row} {R : Res} {Post : Res → Prop} (hF : Fn P f args H (· = R)) (h : Fin H Post ⟨[], finL R H, []⟩ R.v) : Fn P f args H Post := by
  refine ⟨hF.1, fun ρ w vs hd ha hc => ?_⟩
  refine (hF.2 ρ w vs hd ha hc).mono fun e w' he => ?_
  obtain ⟨R0, u, ρ2, rfl, rfl, q1, q2, q3, q4, q5, q6, q7⟩ := he
  rw [← finL_ok R0 H (fun p hp => by obtain ⟨r, hr, _⟩ := q5 p hp; exact (List.getElem?_eq_some_iff.1 hr).1)] at q4
  obtain ⟨R', ρ', g1, g2, g3, g4, g5, g6, g7, g8⟩ := fin_conc h hd q1 q4 q3
  exact ⟨R', u, ρ', g1, rfl, g2, g3, g4, g5, g6, g7, g8⟩
theorem map_frS {c es : Nat} {cells l : List SV} (h : allScal l = true) : l.map (frS c es cells) = l := by
  have := allScal_mem h
  clear h
  induction l with
  | nil => rfl
  | cons a l ih =>
    rw [List.map_cons, ih (fun s hs => this s (List.mem_cons_of_mem _ hs))]
    have ha := this a List.mem_cons_self
    congr 1
    cases a <;> first | rfl | (simp [SV.scal] at ha)
theorem svsm_fr {m : Rn} {c es : Nat} {cells l : List SV} (h : allScal l = true) : SVsM m (l.map (frS c es cells)) l := by
  rw [map_frS h]; exact svsm_scal h
/-- A block that a function makes, its operations frozen. -/
theorem freeze1 {P : Program} {f : FuncId} {args : List AV} {e0 : Nat} {M0 M : List SV} {A : Nat} {L : Int} {K : Nat} (h : Fn P f args [⟨false, e0, M0⟩] (· = ⟨.a (.agg [.int .u32 A, .int .i64 L, .sl 1 0 K]), [], [⟨true, 6, M⟩]⟩)) (hf : flatAll M = true) (hs0 : allScal M0 = true) :
    Fn P f args [⟨false, e0, M0⟩] (· = ⟨.a (.agg [.int .u32 A, .int .i64 L, .fz 6 K M]), [], []⟩) := by
  refine fn_re h ?_
  refine Fin.fr (c := 1) (es := 6) (cells := M) rfl hf ?_
  refine Fin.mk ⟨.a (.agg [.int .u32 A, .int .i64 L, .fz 6 K M]), [], []⟩ [(0, some 0)] rfl ?_ ?_ rfl
  · exact tvm_a (avm_agg (.cons (svm_same rfl) (.cons (svm_same rfl) (.cons (svm_same rfl) .nil))))
  · show HlS _ _ [] _
    refine hls_row (rowmt_mk rfl rfl rfl rfl (svsm_fr hs0)) ?_
    exact hls_nil
/-- Fold of both sides, its operations frozen. -/
theorem foldFz (A : Nat) (hA : A < 4294967296) (L : Int) (l : List Mi) (N : Nat) (hN : l.length = N) (hN2 : N ≤ 1000000) (hk : ∀ m ∈ l, m.k < 4294967296) (hm : ∀ m ∈ l, MiOk m) :
    ∃ b : Bk, b.A = A ∧ b.L = L ∧ b.ok ∧ (0 < N → mayV A L (l.map Mi.z) = true → mayV A L b.l = true) ∧
      Fn Try.prog 43 [.agg [.int .u32 A, .int .i64 L, .sl 0 0 N]] [⟨false, 6, mcs l⟩] (· = ⟨.a (.agg b.C), [], []⟩) ∧
      Fn Try.prog 23 [.agg [.int .u32 A, .int .i64 L, .sl 0 0 N]] [⟨false, 6, mcs l⟩] (· = ⟨.a (.agg b.C), [], []⟩) := by
  have hs := mcs_scal l
  cases hmv : mayV A L (l.map Mi.z) with
  | false =>
    have h1 := foldN_fn A hA L (l.map Mi.z) N (by simp; omega) hN2 hmv
    have h2 := rfoldN_fn A hA L (l.map Mi.z) N (by simp; omega) hN2 hmv
    have hf := mzs_flat (l.map Mi.z)
    have hl : (l.map Mi.z).length = N := by simp; omega
    refine ⟨⟨A, L, l.map Mi.z⟩, rfl, rfl, ⟨hA, by show (l.map Mi.z).length ≤ _; omega, fun m hm => ?_⟩, fun _ h => (by cases h), ?_, ?_⟩
    · obtain ⟨q, hq, rfl⟩ := List.mem_map.1 hm
      exact hk q hq
    · dsimp only [Bk.C]
      rw [hl]
      rw [mzs_mcs] at h1 hf ⊢
      exact freeze1 h1 hf hs
    · dsimp only [Bk.C]
      rw [hl]
      rw [mzs_mcs] at h2 hf ⊢
      exact freeze1 h2 hf hs
  | true =>
    have h0 : 0 < N := by
      cases N with
      | zero => rw [List.length_eq_zero_iff.1 hN] at hmv; rw [show ([] : List Mi).map Mi.z = [] from rfl, may0] at hmv; cases hmv
      | succ n => omega
    have h1 := foldI_fn A hA L l N _ hN hN2 h0 hm hmv rfl
    have h2 := rfoldI_fn A hA L l N _ hN hN2 h0 hm hmv rfl
    have hf := mzs_flat ((fldL l).map Mi.z)
    have hle := fldL_le l
    refine ⟨⟨A, L, (fldL l).map Mi.z⟩, rfl, rfl, ⟨hA, by simp; omega, fun m hm2 => ?_⟩, fun _ _ => fldL_may A L l (by omega) hm hmv, ?_, ?_⟩
    · obtain ⟨q, hq, rfl⟩ := List.mem_map.1 hm2
      exact (fldL_ok l hm q hq).2.2.2
    · dsimp only [Bk.C]
      rw [show ((fldL l).map Mi.z).length = (fldL l).length by simp]
      rw [mzs_mcs] at hf ⊢
      exact freeze1 h1 hf hs
    · dsimp only [Bk.C]
      rw [show ((fldL l).map Mi.z).length = (fldL l).length by simp]
      rw [mzs_mcs] at hf ⊢
      exact freeze1 h2 hf hs
theorem rmayF_fn (A : Nat) (hA : A < 4294967296) (L : Int) (l : List Mz) (N : Nat) (hN : l.length = N) (hN2 : N ≤ 1000000) : Fn Try.prog 38 [.agg [.int .u32 A, .int .i64 L, .fz 6 N (mzs l)]] [] (· = ⟨.a (.s (.bool (mayV A L l))), [], []⟩) := by
  refine fn_thaw (H := []) (es := 6) (n := N) (cells := mzs l) (R' := ⟨.a (.s (.bool (mayV A L l))), [], []⟩) [] (bmay_fn A hA L l N hN hN2) (fun ρ vs h => hole_a (pre := []) (post := []) (l1 := [.int .u32 A, .int .i64 L]) (l2 := []) ρ vs h) ?_ ?_ rfl
  · exact tvm_a (avm_s (svm_same rfl))
  · exact hls_nil
end Go.Proofs.Ytcaddlighhiepaa

/- Caches: the reference's Insert. -/
namespace Go.Proofs.Ytcaddlighhiepaa
open Go Go.RowKit
set_option linter.unusedSimpArgs false
set_option linter.unusedVariables false

def rist (N K i : Nat) (CC BB OO : List SV) : St :=
  ⟨[(0, .a (.s (.sl 0 0 N))), (3, .a (.s (.ptr 1 0))), (5, .a (.s (.sl 2 0 K))), (6, .a (.s (.int .i64 i)))], [(0, some ⟨false, 3, CC⟩), (1, some ⟨true, 1, BB⟩), (2, some ⟨true, 3, OO⟩)], [0]⟩
set_option maxHeartbeats 4000000 in
set_option maxRecDepth 100000 in
theorem rinsert_fn (c : List Bk) (N : Nat) (hN : c.length = N) (hN2 : N ≤ 1000000) (b : Bk) (hb : b.ok) (I : List Bk) (hI : insL c b = I) (K : Nat) (hK : I.length = K) :
    Fn Try.prog 17 [.s (.sl 0 0 N), .agg b.C] [⟨false, 3, bks c⟩] (· = ⟨.a (.s (.sl 1 0 K)), [], [⟨true, 3, bks I⟩]⟩) := by
  have cm := rmayF_fn b.A hb.1 b.L b.l _ rfl hb.2.1
  have s1 := bks_scal c
  have l1 := bks_len c
  have k1 := bks_known c
  have hsg := bks_seg c
  unfold insL at hI
  by_cases hm : mayV b.A b.L b.l = true
  rotate_left
  · rw [if_neg hm] at hI
    subst hI
    rw [Bool.not_eq_true] at hm
    rw [hm] at cm
    obtain rfl : N = K := by omega
    obtain ⟨A, L, l⟩ := b
    dsimp only [Bk.C] at *
    clear hsg
    have sk : (bks c).length = N * ty27.size ∧ allKnown (bks c) = true ∧ ∀ (j : Nat) s, (bks c)[j]? = some s → (bks c)[0 + j]? = some s := ⟨by rw [l1, hN]; rfl, k1, fun j s hs => by rw [Nat.zero_add]; exact hs⟩
    generalize bks c = CV at *
    generalize l.length = NL at *
    generalize mzs l = M at *
    refine fn_of_vc mixed tys_ok _ _ Try.func17 (by kernel_rfl) rfl Try.ntmps17 (by rw [Try.results17]) rfl ?_; dsimp only [argTm, argHl, Nat.zero_add, Nat.reduceAdd, List.length_nil, List.length_cons]
    (repeat' ((conv => whnf); first | ((first | apply Br.mk | apply Gd.mk) <;> (intro hb; first | exact aK2 hb | (simp only [d1, d2, beq_iff_eq, bne_iff_ne, d3, d4, d5, d6, Int.not_lt, Int.not_le, ge_iff_le, gt_iff_lt, ne_eq, d7] at hb; first | (exfalso; omega) | skip) | skip))  |  (refine Eqs.mk _ (eqt_ok _ _ rfl _ _ _ rfl) ?_)  |  (refine vcall_pure (cm) rfl ?_)  |  (refine Zs.mk [] ⟨rfl, fun k s h => by simp at h⟩ ?_)  |  (apply Sk.mk; · exact sk)  |  (apply Sd.mk; · first | omega | (refine ⟨rfl, rfl, rfl, ?_, ?_⟩ <;> first | omega | (show (0 + N) * 40 ≤ _; omega) | (show (0 + N) * 48 ≤ _; omega)))  |  ((with_reducible apply Vl.mk (α := Nat)); · exact Nat.zero_add N)  |  ((with_reducible apply Vl.mk (α := List SV)); · exact List.nil_append CV) | ((with_reducible apply Vl.mk (α := Nat)); · exact aNt) | (with_reducible apply sd_draw; · kernel_rfl) | (apply Sd.mk; · exact aSd) | ((with_reducible apply Vl.mk (α := Int)); · exact aAr) | ((with_reducible first | apply Vl.mk (α := Bool) | apply Vl.mk (α := Nat) | apply Vl.mk (α := ByteArray) | apply Ge.mk (α := Row) | apply Ge.mk (α := SV) | apply Ge.mk (α := AV)); · exact rfl) | (refine And.intro rfl ?_) | ((with_reducible first | apply Vl.mk (α := List SV) | apply Vl.mk (α := Ef) | apply Vl.mk (α := TV) | apply Ge.mk (α := List SV) | apply Sg.mk | apply Sk.mk); · exact aCl) | ((first | apply Br.mk | apply Gd.mk) <;> (intro hb; first | exact aKl hb | (simp only [d1, d2, beq_iff_eq, bne_iff_ne, d3, d4, d5, d6, Int.not_lt, Int.not_le, ge_iff_le, gt_iff_lt, ne_eq, d7] at hb; first | (exfalso; omega) | skip) | skip)) | (apply Sd.mk; · exact aS2))); (all_goals (try (conv => whnf)))
    all_goals first | (apply Fin.mk (m := [(0, some 0), (1, some _)]); (focus exact rfl); (all_goals ((try (show HlS _ _ [] _)); first | (exact aFi) | exact rfl))) | trace_state
  rw [if_pos hm] at hI
  rw [hm] at cm
  obtain ⟨A, L, l⟩ := b
  dsimp only [Bk.C] at hI cm hm ⊢
  generalize hBB : [SV.int .u32 (A : Nat), .int .i64 L, .fz 6 l.length (mzs l)] = BB at *
  subst hBB
  generalize hCV : bks c = CV at *
  generalize hNL : l.length = NL at *
  generalize hM : mzs l = M at *
  refine fn_of_vc mixed tys_ok _ _ Try.func17 (by kernel_rfl) rfl Try.ntmps17 (by rw [Try.results17]) rfl ?_; dsimp only [argTm, argHl, Nat.zero_add, Nat.reduceAdd, List.length_nil, List.length_cons]
  (repeat' ((conv => whnf); first | ((first | apply Br.mk | apply Gd.mk) <;> (intro hb; first | exact aK2 hb | (simp only [d1, d2, beq_iff_eq, bne_iff_ne, d3, d4, d5, d6, Int.not_lt, Int.not_le, ge_iff_le, gt_iff_lt, ne_eq, d7] at hb; first | (exfalso; omega) | skip) | skip))  |  (refine Eqs.mk _ (eqt_ok _ _ rfl _ _ _ rfl) ?_)  |  (refine vcall_pure (cm) rfl ?_) | ((with_reducible apply Vl.mk (α := Nat)); · exact aNt) | (with_reducible apply sd_draw; · kernel_rfl) | (apply Sd.mk; · exact aSd) | ((with_reducible apply Vl.mk (α := Int)); · exact aAr) | ((with_reducible first | apply Vl.mk (α := Bool) | apply Vl.mk (α := Nat) | apply Vl.mk (α := ByteArray) | apply Ge.mk (α := Row) | apply Ge.mk (α := SV) | apply Ge.mk (α := AV)); · exact rfl) | (refine And.intro rfl ?_) | ((with_reducible first | apply Vl.mk (α := List SV) | apply Vl.mk (α := Ef) | apply Vl.mk (α := TV) | apply Ge.mk (α := List SV) | apply Sg.mk | apply Sk.mk); · exact aCl) | ((first | apply Br.mk | apply Gd.mk) <;> (intro hb; first | exact aKl hb | (simp only [d1, d2, beq_iff_eq, bne_iff_ne, d3, d4, d5, d6, Int.not_lt, Int.not_le, ge_iff_le, gt_iff_lt, ne_eq, d7] at hb; first | (exfalso; omega) | skip) | skip)) | (apply Sd.mk; · exact aS2))); (all_goals (try (conv => whnf)))
  refine Lp.inv (fun mm σ => ∃ (i : Nat) (w : List Bk), mm + i = N ∧ (c.take i).filter (fun e => decide (e.A ≠ A)) = w ∧ w.length ≤ 15 ∧ σ = rist N (1 + w.length) i CV [.int .u32 (A : Nat), .int .i64 L, .fz 6 NL M] (bks ((⟨A, L, l⟩ : Bk) :: w))) ?_ ?_
  · refine ⟨N, rist N 1 0 CV [.int .u32 (A : Nat), .int .i64 L, .fz 6 NL M] [.int .u32 (A : Nat), .int .i64 L, .fz 6 NL M], ?_, 0, [], by omega, rfl, by decide, by rw [show bks [(⟨A, L, l⟩ : Bk)] = [.int .u32 (A : Nat), .int .i64 L, .fz 6 l.length (mzs l)] from rfl, hNL, hM]; rfl⟩
    (apply wk_of (m := [(0, some 0), (1, some _), (2, some _)]); (focus ((repeat' (first | exact tml_nil | apply tml_cons)); all_goals (exact aFi))); (focus ((show HlS _ _ [] _); (exact aFi))); (focus (first | exact rfl | rfl | kernel_rfl)))
  rintro mm σ ⟨i, w, hmi, hw, hwl, rfl⟩
  unfold rist
  have h2 := bks_scal ((⟨A, L, l⟩ : Bk) :: w)
  have l2 : (bks ((⟨A, L, l⟩ : Bk) :: w)).length = (1 + w.length) * 3 := by rw [bks_len]; simp; omega
  by_cases hi : i < N ∧ w.length < 15
  · obtain ⟨b, hb'⟩ : ∃ b, c[i]? = some b := ⟨c[i]'(by omega), List.getElem?_eq_getElem (by omega)⟩
    have seg := hsg i b hb'
    have g0 := seg.2 0 _ rfl
    have hft := filter_take (fun e => decide (e.A ≠ A)) c i b hb'
    rw [hw] at hft
    have q2 : IntKind.i64.wrap ((i : Int) + 1) = ((i + 1 : Nat) : Int) := by rw [wi64 (by omega) (by omega)]; omega
    have x3 : 0 + ((i : Nat) : Int).toNat * ty27.size = i * 3 := by show 0 + ((i : Nat) : Int).toNat * 3 = _; omega
    by_cases hc : b.A = A
    · rw [if_neg (by rw [decide_eq_true_eq]; exact fun h => h hc)] at hft
      have hci : ((b.A : Nat) : Int) = (A : Int) := by omega
      clear hsg seg hb' hw
      generalize hO1 : bks ((⟨A, L, l⟩ : Bk) :: w) = O1 at *
      (repeat' ((conv => whnf); first | ((first | apply Br.mk | apply Gd.mk) <;> (intro hb; first | exact aK2 hb | (simp only [d1, d2, beq_iff_eq, bne_iff_ne, d3, d4, d5, d6, Int.not_lt, Int.not_le, ge_iff_le, gt_iff_lt, ne_eq, d7] at hb; first | (exfalso; omega) | skip) | skip))  |  (refine Eqs.mk _ (eqt_ok _ _ rfl _ _ _ rfl) ?_)  |  ((with_reducible apply Vl.mk (α := Int)); · with_reducible first | exact q2)  |  ((with_reducible apply Vl.mk (α := Nat)); · exact x3)  |  (apply Sd.mk; · first | omega | (show (0 : Int) ≤ _ ∧ _ < _; omega))  |  ((with_reducible apply Ge.mk (α := SV)); · exact g0) | ((with_reducible apply Vl.mk (α := Nat)); · exact aNt) | (with_reducible apply sd_draw; · kernel_rfl) | (apply Sd.mk; · exact aSd) | ((with_reducible apply Vl.mk (α := Int)); · exact aAr) | ((with_reducible first | apply Vl.mk (α := Bool) | apply Vl.mk (α := Nat) | apply Vl.mk (α := ByteArray) | apply Ge.mk (α := Row) | apply Ge.mk (α := SV) | apply Ge.mk (α := AV)); · exact rfl) | (refine And.intro rfl ?_) | ((with_reducible first | apply Vl.mk (α := List SV) | apply Vl.mk (α := Ef) | apply Vl.mk (α := TV) | apply Ge.mk (α := List SV) | apply Sg.mk | apply Sk.mk); · exact aCl) | ((first | apply Br.mk | apply Gd.mk) <;> (intro hb; first | exact aKl hb | (simp only [d1, d2, beq_iff_eq, bne_iff_ne, d3, d4, d5, d6, Int.not_lt, Int.not_le, ge_iff_le, gt_iff_lt, ne_eq, d7] at hb; first | (exfalso; omega) | skip) | skip)) | (apply Sd.mk; · exact aS2))); (all_goals (try (conv => whnf)))
      all_goals first
        | (refine ⟨mm - 1, rist N (1 + w.length) (i + 1) CV [.int .u32 (A : Nat), .int .i64 L, .fz 6 NL M] O1, by omega, ?_, i + 1, w, by omega, hft, by omega, by rw [hO1]; try rfl⟩
           (apply wk_of (m := [(0, some 0), (1, some _), (2, some _)]); (focus ((repeat' (first | exact tml_nil | apply tml_cons)); all_goals (exact aFi))); (focus ((show HlS _ _ [] _); (exact aFi))); (focus (first | exact rfl | rfl | kernel_rfl))))
        | trace_state
    · rw [if_pos (by rw [decide_eq_true_eq]; exact hc)] at hft
      have hci : ¬ ((b.A : Nat) : Int) = (A : Int) := by omega
      have happ : bks ((⟨A, L, l⟩ : Bk) :: w) ++ b.C = bks ((⟨A, L, l⟩ : Bk) :: (w ++ [b])) := by
        rw [show ((⟨A, L, l⟩ : Bk) :: (w ++ [b])) = ((⟨A, L, l⟩ : Bk) :: w) ++ [b] from rfl, bks_app]; rfl
      have h3 := bks_scal ((⟨A, L, l⟩ : Bk) :: (w ++ [b]))
      have hl2 : (w ++ [b]).length = w.length + 1 := by simp
      have hn1 : 1 + w.length + 1 = 1 + (w.length + 1) := by omega
      clear hsg hb' hw
      obtain ⟨bA, bL, bl⟩ := b
      dsimp only [Bk.C] at seg g0 hci hc happ
      generalize hw2 : w ++ [(⟨bA, bL, bl⟩ : Bk)] = w2 at *
      generalize hO2 : bks ((⟨A, L, l⟩ : Bk) :: w2) = O2 at *
      generalize bks ((⟨A, L, l⟩ : Bk) :: w) = O1 at *
      generalize hR : w.length = R at *
      generalize bl.length = bN at *
      generalize mzs bl = bM at *
      (repeat' ((conv => whnf); first | ((first | apply Br.mk | apply Gd.mk) <;> (intro hb; first | exact aK2 hb | (simp only [d1, d2, beq_iff_eq, bne_iff_ne, d3, d4, d5, d6, Int.not_lt, Int.not_le, ge_iff_le, gt_iff_lt, ne_eq, d7] at hb; first | (exfalso; omega) | skip) | skip))  |  (refine Eqs.mk _ (eqt_ok _ _ rfl _ _ _ rfl) ?_)  |  ((with_reducible apply Vl.mk (α := Int)); · with_reducible first | exact q2)  |  ((with_reducible apply Vl.mk (α := Nat)); · first | exact x3)  |  (apply Sd.mk; · first | omega | (show (0 : Int) ≤ _ ∧ _ < _; omega) | (refine ⟨rfl, rfl, ?_, ?_, ?_⟩; (focus (show O1.length = (1 + R) * 3; omega)); (focus first | (show (1 + R + 1) * 40 ≤ _; omega) | (show (1 + R + 1) * 48 ≤ _; omega)); (focus omega)))  |  ((with_reducible apply Ge.mk (α := SV)); · exact g0)  |  (apply Sg.mk; · exact seg)  |  ((with_reducible apply Vl.mk (α := List SV)); · exact happ) | ((with_reducible apply Vl.mk (α := Nat)); · exact aNt) | (with_reducible apply sd_draw; · kernel_rfl) | (apply Sd.mk; · exact aSd) | ((with_reducible apply Vl.mk (α := Int)); · exact aAr) | ((with_reducible first | apply Vl.mk (α := Bool) | apply Vl.mk (α := Nat) | apply Vl.mk (α := ByteArray) | apply Ge.mk (α := Row) | apply Ge.mk (α := SV) | apply Ge.mk (α := AV)); · exact rfl) | (refine And.intro rfl ?_) | ((with_reducible first | apply Vl.mk (α := List SV) | apply Vl.mk (α := Ef) | apply Vl.mk (α := TV) | apply Ge.mk (α := List SV) | apply Sg.mk | apply Sk.mk); · exact aCl) | ((first | apply Br.mk | apply Gd.mk) <;> (intro hb; first | exact aKl hb | (simp only [d1, d2, beq_iff_eq, bne_iff_ne, d3, d4, d5, d6, Int.not_lt, Int.not_le, ge_iff_le, gt_iff_lt, ne_eq, d7] at hb; first | (exfalso; omega) | skip) | skip)) | (apply Sd.mk; · exact aS2))); (all_goals (try (conv => whnf)))
      all_goals first
        | (refine ⟨mm - 1, rist N (1 + R + 1) (i + 1) CV [.int .u32 (A : Nat), .int .i64 L, .fz 6 NL M] O2, by omega, ?_, i + 1, w2, by omega, hft, by omega, by rw [hO2, hl2, ← hn1]; try rfl⟩
           (apply wk_of (m := [(0, some 0), (1, some _), (2, some _)]); (focus ((repeat' (first | exact tml_nil | apply tml_cons)); all_goals (exact aFi))); (focus ((show HlS _ _ [] _); (exact aFi))); (focus (first | exact rfl | rfl | kernel_rfl))))
        | trace_state
  · have hfin : (⟨A, L, l⟩ : Bk) :: w = I := by
      rw [← hI]
      congr 1
      by_cases h2 : i < N
      · have hwl2 : w.length = 15 := by omega
        have e : c.filter (fun e => decide (e.A ≠ A)) = w ++ (c.drop i).filter (fun e => decide (e.A ≠ A)) := by
          conv => lhs; rw [← List.take_append_drop i c]
          rw [List.filter_append, hw]
        rw [e, List.take_left' hwl2]
      · rw [List.take_of_length_le (by omega)] at hw
        rw [hw, List.take_of_length_le hwl]
    have hK2 : K = 1 + w.length := by rw [← hK, ← hfin]; simp; omega
    rw [hfin] at h2 l2 ⊢
    rw [← hK2] at l2 ⊢
    have hcond : ¬ (((i : Nat) : Int) < (N : Int) ∧ ((1 + w.length : Nat) : Int) < 16) := by omega
    rw [← hK2] at hcond
    clear hw hfin hI hsg
    generalize bks I = IV at *
    (repeat' ((conv => whnf); first | ((first | apply Br.mk | apply Gd.mk) <;> (intro hb; first | exact aK2 hb | (simp only [d1, d2, beq_iff_eq, bne_iff_ne, d3, d4, d5, d6, Int.not_lt, Int.not_le, ge_iff_le, gt_iff_lt, ne_eq, d7] at hb; first | (exfalso; omega) | skip) | skip))  |  (refine Eqs.mk _ (eqt_ok _ _ rfl _ _ _ rfl) ?_) | ((with_reducible apply Vl.mk (α := Nat)); · exact aNt) | (with_reducible apply sd_draw; · kernel_rfl) | (apply Sd.mk; · exact aSd) | ((with_reducible apply Vl.mk (α := Int)); · exact aAr) | ((with_reducible first | apply Vl.mk (α := Bool) | apply Vl.mk (α := Nat) | apply Vl.mk (α := ByteArray) | apply Ge.mk (α := Row) | apply Ge.mk (α := SV) | apply Ge.mk (α := AV)); · exact rfl) | (refine And.intro rfl ?_) | ((with_reducible first | apply Vl.mk (α := List SV) | apply Vl.mk (α := Ef) | apply Vl.mk (α := TV) | apply Ge.mk (α := List SV) | apply Sg.mk | apply Sk.mk); · exact aCl) | ((first | apply Br.mk | apply Gd.mk) <;> (intro hb; first | exact aKl hb | (simp only [d1, d2, beq_iff_eq, bne_iff_ne, d3, d4, d5, d6, Int.not_lt, Int.not_le, ge_iff_le, gt_iff_lt, ne_eq, d7] at hb; first | (exfalso; omega) | skip) | skip)) | (apply Sd.mk; · exact aS2))); (all_goals (try (conv => whnf)))
    all_goals first | (apply Fin.mk (m := [(0, some 0), (1, some 2)]); (focus exact rfl); (all_goals ((try (show HlS _ _ [] _)); first | (exact aFi) | exact rfl))) | (exfalso; omega) | trace_state
end Go.Proofs.Ytcaddlighhiepaa
