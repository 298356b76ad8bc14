import Derived.Test.YtcaddlighhiepaaCcH
import Derived.Test.YtcaddlighhiepaaBlF
/- Chapter 17: the memory of code, made, awake. -/
namespace Go.Proofs.Ytcaddlighhiepaa
open Go Go.RowKit
set_option linter.unusedSimpArgs false
set_option linter.unusedVariables false

theorem awake17_run : runF eqt tys true fns noCt 1000 20 7 [] [] = some ⟨.a (.s (.bool true)), [], []⟩ := by kernel_rfl
theorem awake17_fn : Fn Try.prog 7 [] [] (· = ⟨.a (.s (.bool true)), [], []⟩) := run_fn awake17_run
def z128 : List Nat := List.replicate 128 0
theorem new4_run : runF eqt tys true fns noCt 1000 20 24 [.s (.int .i64 4)] [] = some ⟨.a (.s (.sl 0 0 128)), [], [⟨true, 1, wsv z128⟩]⟩ := by kernel_rfl
theorem new4_fn : Fn Try.prog 24 [.s (.int .i64 4)] [] (· = ⟨.a (.s (.sl 0 0 128)), [], [⟨true, 1, wsv z128⟩]⟩) := run_fn new4_run
def setF (f : Nat → Nat) : Nat → List Nat
  | 0 => z128
  | j + 1 => (setF f j).set j (f j)
theorem setF_len (f : Nat → Nat) : ∀ j, (setF f j).length = 128
  | 0 => rfl
  | j + 1 => by unfold setF; rw [List.length_set]; exact setF_len f j
theorem setF_lt (f : Nat → Nat) (hf : ∀ j, f j < 4294967296) : ∀ j, ∀ y ∈ setF f j, y < 4294967296
  | 0, y, h => by
    have := List.eq_of_mem_replicate h
    omega
  | j + 1, y, h => by
    unfold setF at h
    rcases List.mem_or_eq_of_mem_set h with h | h
    · exact setF_lt f hf j y h
    · subst h; exact hf j
theorem setF_get (f : Nat → Nat) : ∀ k j, j < k → k ≤ 128 → (setF f k).getD j 0 = f j
  | 0, j, h, _ => by omega
  | k + 1, j, h, hk => by
    unfold setF
    rw [List.getD_eq_getElem?_getD]
    by_cases e : j = k
    · subst e
      rw [List.getElem?_set_self (by rw [setF_len]; omega), Option.getD_some]
    · rw [List.getElem?_set_ne (Ne.symm e), ← List.getD_eq_getElem?_getD]
      exact setF_get f k j (by omega) (by omega)
def c17 (ls : List Int) (k : Nat) : List Nat := setF (cv ls) k
theorem c17_len (ls : List Int) (j : Nat) : (c17 ls j).length = 128 := setF_len _ j
theorem c17_lt (ls : List Int) (j : Nat) : ∀ y ∈ c17 ls j, y < 4294967296 := setF_lt _ (cv_lt ls) j
theorem c17_get (ls : List Int) (k j : Nat) (h : j < k) (hk : k ≤ 128) : (c17 ls k).getD j 0 = cv ls j := setF_get _ k j h hk
theorem c17_step (ls : List Int) (j : Nat) : c17 ls (j + 1) = (c17 ls j).set j (cv ls j) := rfl
theorem c17_dok (ls : List Int) (j : Nat) (hj : j < 128) : dOk ((c17 ls 128).getD j 0) = true := by
  rw [c17_get ls 128 j hj (Nat.le_refl _)]
  exact cv_dok ls j
theorem set17 (xs : List Nat) (j w : Nat) (hj : j < xs.length) : setAll (wsv xs) j [.int .u32 w] = wsv (xs.set j w) := by
  apply List.ext_getElem?
  intro i
  rw [setAll_get _ _ _ _ (by rw [wsv_len']; show j + 1 ≤ _; omega)]
  unfold wsv
  simp only [List.getElem?_map]
  by_cases h : i = j
  · subst h
    rw [if_pos ⟨Nat.le_refl _, by show i < i + 1; omega⟩, List.getElem?_set_self hj, Nat.sub_self]; rfl
  · rw [if_neg (fun h2 => h (by have h3 : i < j + 1 := h2.2; omega)), List.getElem?_set_ne (Ne.symm h)]
def cdst17 (n i : Nat) (LL M : List SV) : St :=
  ⟨[(0, .a (.s (.sl 0 0 n))), (3, .a (.s (.sl 1 0 128))), (4, .a (.s (.int .i64 i)))], [(0, some ⟨false, 1, LL⟩), (1, some ⟨true, 1, M⟩)], [0]⟩
set_option maxHeartbeats 1000000 in
set_option maxRecDepth 100000 in
theorem code17_fn (ls : List Int) (n : Nat) (hl : ls.length = n) (hn : n ≤ 9223372036854775807) : Fn Try.prog 8 [.s (.sl 0 0 n)] [⟨false, 1, isv .i64 ls⟩] (· = ⟨.a (.s (.sl 1 0 128)), [], [⟨true, 1, wsv (c17 ls 128)⟩]⟩) := by
  have hsc := isv_scal .i64 ls
  have ha := fun i : Int => at_fn ls n i hl hn
  have hz := wsv_scal z128
  generalize hLL : isv .i64 ls = LL at *
  refine fn_of_vc mixed tys_ok _ _ Try.func8 (by kernel_rfl) rfl Try.ntmps8 (by rw [Try.results8]) rfl ?_; dsimp only [argTm, argHl, Nat.zero_add, Nat.reduceAdd, List.length_nil, List.length_cons]
  (repeat' ((conv => whnf); first | (refine vcall_det new4_fn [] [] rfl trivial trivial ⟨rfl, noUp⟩ ?_) | ((with_reducible apply Vl.mk (α := Nat)); · exact aNt) | (with_reducible apply sd_draw; · kernel_rfl) | (apply Sd.mk; · exact aSd) | ((with_reducible apply Vl.mk (α := Int)); · exact aAr) | ((with_reducible first | apply Vl.mk (α := Bool) | apply Vl.mk (α := Nat) | apply Vl.mk (α := ByteArray) | apply Ge.mk (α := Row) | apply Ge.mk (α := SV) | apply Ge.mk (α := AV)); · exact rfl) | (refine And.intro rfl ?_) | ((with_reducible first | apply Vl.mk (α := List SV) | apply Vl.mk (α := Ef) | apply Vl.mk (α := TV) | apply Ge.mk (α := List SV) | apply Sg.mk | apply Sk.mk); · exact aCl) | ((first | apply Br.mk | apply Gd.mk) <;> (intro hb; first | exact aKl hb | (simp only [d1, d2, beq_iff_eq, bne_iff_ne, d3, d4, d5, d6, Int.not_lt, Int.not_le, ge_iff_le, gt_iff_lt, ne_eq, d7] at hb; first | (exfalso; omega) | skip) | skip)) | (apply Sd.mk; · exact aS2))); (all_goals (try (conv => whnf)))
  refine Lp.inv (fun mm σ => ∃ j : Nat, mm + j = 128 ∧ σ = cdst17 n j LL (wsv (c17 ls j))) ?_ ?_
  · refine ⟨128, cdst17 n 0 LL (wsv z128), ?_, 0, by omega, rfl⟩
    (apply wk_of (m := [(0, some 0), (1, some _)]); (focus ((repeat' (first | exact tml_nil | apply tml_cons)); all_goals (exact aFi))); (focus ((show HlS _ _ [] _); (exact aFi))); (focus (first | exact rfl | rfl | kernel_rfl)))
  rintro mm σ ⟨j, hmj, rfl⟩
  unfold cdst17
  have hs1 := wsv_scal (c17 ls j)
  have hl1 : (wsv (c17 ls j)).length = 128 := by rw [wsv_len', c17_len]
  by_cases hj : j < 128
  · have ca := ha (j : Int)
    have ci := inst_fn (IntKind.i64.wrap (atV ls (j : Int) + (j : Int)))
    have ce := (encI_fn (IntKind.i64.wrap (atV ls (j : Int) + (j : Int)))).1
    change Fn _ _ _ _ (· = ⟨.tup [.s (.int .u32 ((cv ls j : Nat) : Int)), .s (.bool true)], [], []⟩) at ce
    have hset := set17 (c17 ls j) j (cv ls j) (by rw [c17_len]; exact hj)
    rw [← c17_step] at hset
    have hs2 := wsv_scal (c17 ls (j + 1))
    obtain ⟨io_, ia_, ib_, ic_, im_, hiv, _⟩ := inst_ok (IntKind.i64.wrap (atV ls (j : Int) + (j : Int)))
    rw [hiv] at ci ce
    unfold iv at ci ce
    have q2 : IntKind.i64.wrap ((j : Int) + 1) = ((j + 1 : Nat) : Int) := by rw [wi64 (by omega) (by omega)]; omega
    have x1 : 0 + ((j : Nat) : Int).toNat * ty24.size = j := by show 0 + ((j : Nat) : Int).toNat * 1 = j; omega
    obtain ⟨Z, hZ⟩ : ∃ Z, IntKind.i64.wrap (atV ls (j : Int) + (j : Int)) = Z := ⟨_, rfl⟩
    rw [hZ] at ci
    clear ha hiv
    generalize cv ls j = w at *
    generalize atV ls (j : Int) = av at *
    generalize hX2 : wsv (c17 ls (j + 1)) = X2 at *
    generalize wsv (c17 ls j) = X1 at *
    (repeat' ((conv => whnf); first | ((with_reducible apply Vl.mk (α := Int)); · with_reducible first | exact q2 | exact hZ)  |  ((with_reducible apply Vl.mk (α := Nat)); · with_reducible exact x1)  |  (apply Sd.mk; · first | (show (0 : Int) ≤ j ∧ (j : Int) < 128; omega) | omega | (refine ⟨rfl, rfl, rfl, ?_⟩; show _ + 1 ≤ X1.length; omega))  |  ((with_reducible apply Vl.mk (α := List SV)); · with_reducible exact hset)  |  (refine vcall_det (ca) [⟨_, 0⟩] [(_, _)] rfl ⟨rfl, trivial⟩ ⟨rfl, rowM_ro (by assumption), trivial⟩ ⟨rfl, up_ok rfl⟩ ?_)  |  (refine vcall_pure (ci) rfl ?_)  |  (refine vcall_pure (ce) rfl ?_) | ((with_reducible apply Vl.mk (α := Nat)); · exact aNt) | (with_reducible apply sd_draw; · kernel_rfl) | (apply Sd.mk; · exact aSd) | ((with_reducible apply Vl.mk (α := Int)); · exact aAr) | ((with_reducible first | apply Vl.mk (α := Bool) | apply Vl.mk (α := Nat) | apply Vl.mk (α := ByteArray) | apply Ge.mk (α := Row) | apply Ge.mk (α := SV) | apply Ge.mk (α := AV)); · exact rfl) | (refine And.intro rfl ?_) | ((with_reducible first | apply Vl.mk (α := List SV) | apply Vl.mk (α := Ef) | apply Vl.mk (α := TV) | apply Ge.mk (α := List SV) | apply Sg.mk | apply Sk.mk); · exact aCl) | ((first | apply Br.mk | apply Gd.mk) <;> (intro hb; first | exact aKl hb | (simp only [d1, d2, beq_iff_eq, bne_iff_ne, d3, d4, d5, d6, Int.not_lt, Int.not_le, ge_iff_le, gt_iff_lt, ne_eq, d7] at hb; first | (exfalso; omega) | skip) | skip)) | (apply Sd.mk; · exact aS2))); (all_goals (try (conv => whnf)))
    all_goals first
      | (refine ⟨mm - 1, cdst17 n (j + 1) LL X2, by omega, ?_, j + 1, by omega, by rw [hX2]; try rfl⟩
         (apply wk_of (m := [(0, some 0), (1, some _)]); (focus ((repeat' (first | exact tml_nil | apply tml_cons)); all_goals (exact aFi))); (focus ((show HlS _ _ [] _); (exact aFi))); (focus (first | exact rfl | rfl | kernel_rfl))))
      | trace_state
  · obtain rfl : j = 128 := by omega
    generalize wsv (c17 ls 128) = X1 at *
    (repeat' ((conv => whnf); first | ((with_reducible apply Vl.mk (α := Nat)); · exact aNt) | (with_reducible apply sd_draw; · kernel_rfl) | (apply Sd.mk; · exact aSd) | ((with_reducible apply Vl.mk (α := Int)); · exact aAr) | ((with_reducible first | apply Vl.mk (α := Bool) | apply Vl.mk (α := Nat) | apply Vl.mk (α := ByteArray) | apply Ge.mk (α := Row) | apply Ge.mk (α := SV) | apply Ge.mk (α := AV)); · exact rfl) | (refine And.intro rfl ?_) | ((with_reducible first | apply Vl.mk (α := List SV) | apply Vl.mk (α := Ef) | apply Vl.mk (α := TV) | apply Ge.mk (α := List SV) | apply Sg.mk | apply Sk.mk); · exact aCl) | ((first | apply Br.mk | apply Gd.mk) <;> (intro hb; first | exact aKl hb | (simp only [d1, d2, beq_iff_eq, bne_iff_ne, d3, d4, d5, d6, Int.not_lt, Int.not_le, ge_iff_le, gt_iff_lt, ne_eq, d7] at hb; first | (exfalso; omega) | skip) | skip)) | (apply Sd.mk; · exact aS2))); (all_goals (try (conv => whnf)))
    all_goals first | (apply Fin.mk (m := [(0, some 0), (1, some 1)]); (focus exact rfl); (all_goals ((try (show HlS _ _ [] _)); first | (exact aFi) | exact rfl))) | trace_state
end Go.Proofs.Ytcaddlighhiepaa

/- Chapter 17: made. -/
namespace Go.Proofs.Ytcaddlighhiepaa
open Go Go.RowKit
set_option linter.unusedSimpArgs false
set_option linter.unusedVariables false

theorem blL_le (xs : List Nat) (n a : Nat) (s : Int) (hxr : ∀ y ∈ xs, y < 4294967296) : (blL xs n a s).length ≤ 16 := (blL_facts xs n a s hxr).1
theorem blA_lt (n a : Nat) (s : Int) (ha : a < 4294967296) : blA n a s < 4294967296 := by unfold blA; split <;> omega
/-- The block at an address, folded: what both sides' Fold hand back. -/
def FP (xs : List Nat) (n a : Nat) (s : Int) (b : Bk) : Prop := b.A = blA n a s ∧ b.ok ∧ ((blL xs n a s).length ≠ 0 → mayV b.A b.L b.l = true) ∧
  Fn Try.prog 43 [.agg [.int .u32 (blA n a s : Nat), .int .i64 ((blL xs n a s).length : Nat), .sl 0 0 (blL xs n a s).length]] [⟨false, 6, mcs (blL xs n a s)⟩] (· = ⟨.a (.agg b.C), [], []⟩) ∧
  Fn Try.prog 23 [.agg [.int .u32 (blA n a s : Nat), .int .i64 ((blL xs n a s).length : Nat), .sl 0 0 (blL xs n a s).length]] [⟨false, 6, mcs (blL xs n a s)⟩] (· = ⟨.a (.agg b.C), [], []⟩)
theorem FP_ex (xs : List Nat) (n a : Nat) (s : Int) (ha : a < 4294967296) (hxr : ∀ y ∈ xs, y < 4294967296) : ∃ b, FP xs n a s b := by
  obtain ⟨h1, h2, h3⟩ := blL_facts xs n a s hxr
  obtain ⟨b, hA, hL, hok, hmay, f1, f2⟩ := foldFz (blA n a s) (blA_lt n a s ha) ((blL xs n a s).length : Nat) (blL xs n a s) _ rfl (by omega) (fun m hm => (h2 m hm).2.2.2) h2
  exact ⟨b, hA, hok, fun h0 => by rw [hA, hL]; exact hmay (by omega) (h3 h0), f1, f2⟩
instance : Nonempty Bk := ⟨⟨0, 0, []⟩⟩
noncomputable def fdB (xs : List Nat) (n a : Nat) (s : Int) : Bk := Classical.epsilon (FP xs n a s)
theorem fdB_ok (xs : List Nat) (n a : Nat) (s : Int) (ha : a < 4294967296) (hxr : ∀ y ∈ xs, y < 4294967296) : FP xs n a s (fdB xs n a s) := Classical.epsilon_spec (FP_ex xs n a s ha hxr)
theorem insL_len (c : List Bk) (b : Bk) (h : c.length ≤ 16) : (insL c b).length ≤ 16 := by
  unfold insL
  split
  · simp; omega
  · exact h
theorem insL_ok (c : List Bk) (b : Bk) (h : ∀ e ∈ c, e.ok) (hb : b.ok) : ∀ e ∈ insL c b, e.ok := fun e he => by
  unfold insL at he
  split at he
  · rcases List.mem_cons.1 he with rfl | he
    · exact hb
    · exact h e (List.mem_filter.1 (List.mem_of_mem_take he)).1
  · exact h e he
/-- The address that a number chooses. -/
def adr17 (z : Int) : Nat := (4 * (z % 128)).toNat
noncomputable def madeL (xs : List Nat) (acs : List Int) : Nat → List Bk
  | 0 => []
  | i + 1 => insL (madeL xs acs i) (fdB xs 128 (adr17 (acs.getD i 0)) 16)
theorem madeL_step (xs : List Nat) (acs : List Int) (i : Nat) : madeL xs acs (i + 1) = insL (madeL xs acs i) (fdB xs 128 (adr17 (acs.getD i 0)) 16) := rfl
theorem madeL_ok (xs : List Nat) (hx : ∀ y ∈ xs, y < 4294967296) (acs : List Int) : ∀ i, (madeL xs acs i).length ≤ 16 ∧ ∀ e ∈ madeL xs acs i, e.ok
  | 0 => ⟨Nat.zero_le _, fun e h => by cases h⟩
  | i + 1 => by
    obtain ⟨h1, h2⟩ := madeL_ok xs hx acs i
    have hb := (fdB_ok xs 128 (adr17 (acs.getD i 0)) 16 (by unfold adr17; omega) hx).2.1
    unfold madeL
    exact ⟨insL_len _ _ h1, insL_ok _ _ h2 hb⟩
def mdst (n p K i : Nat) (XV AV CV : List SV) : St :=
  ⟨[(0, .a (.s (.sl 0 0 n))), (1, .a (.s (.sl 1 0 p))), (5, .a (.s (.sl 2 0 K))), (6, .a (.s (.int .i64 i)))], [(0, some ⟨false, 1, XV⟩), (1, some ⟨false, 1, AV⟩), (2, some ⟨true, 3, CV⟩)], [0]⟩
set_option maxHeartbeats 2000000 in
set_option maxRecDepth 100000 in
theorem made_fn (xs : List Nat) (hx : ∀ y ∈ xs, y < 4294967296) (hl : xs.length = 128) (acs : List Int) (p : Nat) (hp : acs.length = p) (hp2 : p ≤ 1000) :
    Fn Try.prog 9 [.s (.sl 0 0 128), .s (.sl 1 0 p)] [⟨false, 1, wsv xs⟩, ⟨false, 1, isv .i64 acs⟩] (· = ⟨.a (.s (.sl 2 0 (madeL xs acs p).length)), [], [⟨true, 3, bks (madeL xs acs p)⟩]⟩) := by
  have hs1 := wsv_scal xs
  have hs2 := isv_scal .i64 acs
  have hget := fun i (h : i < p) => isv_get .i64 acs i (by omega)
  generalize hXV : wsv xs = XV at *
  generalize hAV : isv .i64 acs = AV at *
  refine fn_of_vc mixed tys_ok _ _ Try.func9 (by kernel_rfl) rfl Try.ntmps9 (by rw [Try.results9]) rfl ?_; dsimp only [argTm, argHl, Nat.zero_add, Nat.reduceAdd, List.length_nil, List.length_cons]
  (repeat' ((conv => whnf); first | (with_reducible apply sd_draw; · kernel_rfl) | (apply Sd.mk; · exact aSd) | ((with_reducible apply Vl.mk (α := Int)); · exact aAr) | ((with_reducible first | apply Vl.mk (α := Bool) | apply Vl.mk (α := Nat) | apply Vl.mk (α := ByteArray) | apply Ge.mk (α := Row) | apply Ge.mk (α := SV) | apply Ge.mk (α := AV)); · exact rfl) | (refine And.intro rfl ?_) | ((with_reducible first | apply Vl.mk (α := List SV) | apply Vl.mk (α := Ef) | apply Vl.mk (α := TV) | apply Ge.mk (α := List SV) | apply Sg.mk | apply Sk.mk); · exact aCl) | ((first | apply Br.mk | apply Gd.mk) <;> (intro hb; first | exact aKl hb | (simp only [d1, d2, beq_iff_eq, bne_iff_ne, d3, d4, d5, d6, Int.not_lt, Int.not_le, ge_iff_le, gt_iff_lt, ne_eq, d7] at hb; first | (exfalso; omega) | skip) | skip)))); (all_goals (try (conv => whnf)))
  refine Lp.inv (fun mm σ => ∃ i : Nat, mm + i = p ∧ σ = mdst 128 p (madeL xs acs i).length i XV AV (bks (madeL xs acs i))) ?_ ?_
  · refine ⟨p, mdst 128 p 0 0 XV AV [], ?_, 0, by omega, rfl⟩
    (apply wk_of (m := [(0, some 0), (1, some 1), (2, none)]); (focus ((repeat' (first | exact tml_nil | apply tml_cons)); all_goals (exact aFi))); (focus ((show HlS _ _ [] _); (exact aFi))); (focus (first | exact rfl | rfl | kernel_rfl)))
  rintro mm σ ⟨i, hmi, rfl⟩
  unfold mdst
  have h2 := bks_scal (madeL xs acs i)
  by_cases hi : i < p
  · have crn := rnd_fn (acs.getD i 0) 128 (by omega) (by omega)
    have hg := hget i hi
    obtain ⟨a, ha⟩ : ∃ a, adr17 (acs.getD i 0) = a := ⟨_, rfl⟩
    have ha2 : a < 512 := by rw [← ha]; unfold adr17; omega
    have q1 : 4 * (acs.getD i 0 % 128) = (a : Int) := by rw [← ha]; unfold adr17; omega
    have q2 : IntKind.i64.wrap ((i : Int) + 1) = ((i + 1 : Nat) : Int) := by rw [wi64 (by omega) (by omega)]; omega
    have q3 : IntKind.i64.wrap (4 * (acs.getD i 0 % 128)) = (a : Int) := by rw [q1, wi64 (by omega) (by omega)]
    have q4 : IntKind.u32.wrap ((a : Nat) : Int) = a := wu32 (by omega) (by omega)
    have cb := rbuildA_fn xs 128 a 16 hl (by omega) (by omega) hx _ rfl
    obtain ⟨f1, f2, f3, f4, f5⟩ := fdB_ok xs 128 a 16 (by omega) hx
    obtain ⟨g1, g2⟩ := madeL_ok xs hx acs i
    have ci := rinsert_fn (madeL xs acs i) _ rfl (by omega) (fdB xs 128 a 16) f2 (madeL xs acs (i + 1)) (by rw [madeL_step, ha]) _ rfl
    have sm := mcs_scal (blL xs 128 a 16)
    have s3 := bks_scal (madeL xs acs (i + 1))
    rw [hXV] at cb
    have y1 : 0 + ((i : Nat) : Int).toNat * ty3.size = i := by show 0 + ((i : Nat) : Int).toNat * 1 = i; omega
    clear f1 f3 f4 g1 g2 ha q1 hget
    generalize mcs (blL xs 128 a 16) = MV at *
    generalize (blL xs 128 a 16).length = BN at *
    generalize blA 128 a 16 = BA at *
    generalize fdB xs 128 a 16 = b at *
    generalize hC2 : madeL xs acs (i + 1) = C2 at *
    generalize madeL xs acs i = C1 at *
    generalize hV2 : bks C2 = V2 at *
    generalize bks C1 = V1 at *
    generalize C1.length = K1 at *
    generalize hK2 : C2.length = K2 at *
    generalize acs.getD i 0 = av at *
    obtain ⟨bA, bL, bl_⟩ := b
    dsimp only [Bk.C] at *
    (repeat' ((conv => whnf); first | ((with_reducible apply Vl.mk (α := Int)); · with_reducible first | exact q2 | exact q3 | exact q4)  |  ((with_reducible apply Vl.mk (α := Nat)); · with_reducible exact y1)  |  (apply Sd.mk; · first | omega | (show (0 : Int) ≤ i ∧ (i : Int) < p; omega))  |  ((with_reducible apply Ge.mk (α := SV)); · exact hg)  |  (refine vcall_pure (crn) rfl ?_)  |  (refine vcall_det (cb) [⟨_, 0⟩] [(_, _)] rfl ⟨rfl, trivial⟩ ⟨rfl, rowM_ro (by assumption), trivial⟩ ⟨rfl, up_ok rfl⟩ ?_)  |  (refine vcall_det (f5) [⟨_, 0⟩] [(_, _)] rfl ⟨rfl, trivial⟩ ⟨rfl, rowM_ro (by assumption), trivial⟩ ⟨rfl, up_ok rfl⟩ ?_)  |  (refine vcall_det (ci) [⟨_, 0⟩] [(_, _)] rfl ⟨rfl, trivial⟩ ⟨rfl, rowM_ro (by assumption), trivial⟩ ⟨rfl, up_ok rfl⟩ ?_) | ((with_reducible apply Vl.mk (α := Nat)); · exact aNt) | (with_reducible apply sd_draw; · kernel_rfl) | (apply Sd.mk; · exact aSd) | ((with_reducible apply Vl.mk (α := Int)); · exact aAr) | ((with_reducible first | apply Vl.mk (α := Bool) | apply Vl.mk (α := Nat) | apply Vl.mk (α := ByteArray) | apply Ge.mk (α := Row) | apply Ge.mk (α := SV) | apply Ge.mk (α := AV)); · exact rfl) | (refine And.intro rfl ?_) | ((with_reducible first | apply Vl.mk (α := List SV) | apply Vl.mk (α := Ef) | apply Vl.mk (α := TV) | apply Ge.mk (α := List SV) | apply Sg.mk | apply Sk.mk); · exact aCl) | ((first | apply Br.mk | apply Gd.mk) <;> (intro hb; first | exact aKl hb | (simp only [d1, d2, beq_iff_eq, bne_iff_ne, d3, d4, d5, d6, Int.not_lt, Int.not_le, ge_iff_le, gt_iff_lt, ne_eq, d7] at hb; first | (exfalso; omega) | skip) | skip)) | (apply Sd.mk; · exact aS2))); (all_goals (try (conv => whnf)))
    all_goals first
      | (refine ⟨mm - 1, mdst 128 p K2 (i + 1) XV AV V2, by omega, ?_, i + 1, by omega, by rw [hC2, hV2, hK2]; rfl⟩
         (apply wk_of (m := [(0, some 0), (1, some 1), (2, some _)]); (focus ((repeat' (first | exact tml_nil | apply tml_cons)); all_goals (exact aFi))); (focus ((show HlS _ _ [] _); (exact aFi))); (focus (first | exact rfl | rfl | kernel_rfl))))
      | trace_state
  · obtain rfl : i = p := by omega
    generalize bks (madeL xs acs i) = V1 at *
    generalize (madeL xs acs i).length = K1 at *
    (repeat' ((conv => whnf); first | ((with_reducible apply Vl.mk (α := Nat)); · exact aNt) | (with_reducible apply sd_draw; · kernel_rfl) | (apply Sd.mk; · exact aSd) | ((with_reducible apply Vl.mk (α := Int)); · exact aAr) | ((with_reducible first | apply Vl.mk (α := Bool) | apply Vl.mk (α := Nat) | apply Vl.mk (α := ByteArray) | apply Ge.mk (α := Row) | apply Ge.mk (α := SV) | apply Ge.mk (α := AV)); · exact rfl) | (refine And.intro rfl ?_) | ((with_reducible first | apply Vl.mk (α := List SV) | apply Vl.mk (α := Ef) | apply Vl.mk (α := TV) | apply Ge.mk (α := List SV) | apply Sg.mk | apply Sk.mk); · exact aCl) | ((first | apply Br.mk | apply Gd.mk) <;> (intro hb; first | exact aKl hb | (simp only [d1, d2, beq_iff_eq, bne_iff_ne, d3, d4, d5, d6, Int.not_lt, Int.not_le, ge_iff_le, gt_iff_lt, ne_eq, d7] at hb; first | (exfalso; omega) | skip) | skip)) | (apply Sd.mk; · exact aS2))); (all_goals (try (conv => whnf)))
    all_goals first | (apply Fin.mk (m := [(0, some 0), (1, some 1), (2, some 2)]); (focus exact rfl); (all_goals ((try (show HlS _ _ [] _)); first | (exact aFi) | exact rfl))) | trace_state
end Go.Proofs.Ytcaddlighhiepaa
