/- CacheCoheres: the law. -/
import Derived.Test.YtcaddlighhiepaaCcP
namespace Go.Proofs.Ytcaddlighhiepaa
open Go Go.RowKit
set_option linter.unusedSimpArgs false
set_option linter.unusedVariables false

theorem and32q (x : Int) : bits .and .i64 x 4294967295 = x % 4294967296 := by
  have e : ((BitVec.ofInt 64 x) &&& (BitVec.ofInt 64 4294967295)).toNat = (x % 4294967296).toNat := by
    rw [BitVec.toNat_and, show (BitVec.ofInt 64 4294967295).toNat = 2 ^ 32 - 1 by simp [BitVec.toNat_ofInt], Nat.and_two_pow_sub_one_eq_mod, BitVec.toNat_ofInt]
    simp only [Nat.reducePow]
    omega
  show IntKind.i64.wrap (((BitVec.ofInt 64 x) &&& (BitVec.ofInt 64 4294967295)).toNat : Int) = _
  rw [e, wi64 (by omega) (by omega)]; omega
theorem stepFind (c : List Bk) (x : Nat) (hok : CI c) : ∃ (C2 : List Bk) (b : Bk) (ok : Bool) , CI C2 ∧ C2.length = c.length ∧ (ok = true → ∀ xs n, CohP xs n c → CohP xs n C2) ∧
    Fn Try.prog 12 [.s (.sl 0 0 c.length), .s (.int .u32 x)] [⟨false, 3, bks c⟩] (· = ⟨.tup [.agg b.C, .s (.sl 1 0 c.length), .s (.bool ok)], [], [⟨true, 3, bks C2⟩]⟩) := by
  have h16 : c.length ≤ 1000000 := Nat.le_trans hok.1 (by decide)
  by_cases h : ∃ b ∈ c, b.A = x
  · obtain ⟨a, e, h1, h2, h3⟩ := idxU_found x c 0 h
    rw [Nat.zero_add] at h1
    exact ⟨frontL c a e, e, true, ⟨by rw [frontL_len c a e h2]; exact hok.1, fun y hy => hok.2 y ((frontL_mem c a e h2 y).1 hy)⟩, frontL_len c a e h2, fun _ xs n hc => coh_front xs n c a e h2 hc, find_hit c c.length rfl h16 hok.2 x a e h2 h1⟩
  · exact ⟨c, ⟨0, 0, []⟩, false, hok, rfl, fun h => (by cases h), find_no c c.length rfl h16 hok.2 x (idxU_none x c 0 h)⟩
theorem stepIns (X : List Nat) (hxl : X.length = 128) (hxr : ∀ y ∈ X, y < 4294967296) (c : List Bk) (i : Nat) (hi : i < 128) (hC : CI c) (hP : CohP X 128 c) :
    ∃ (b : Bk) (C2 : List Bk) (BN BA : Nat) (MV : List SV), allScal MV = true ∧ CI C2 ∧ CohP X 128 C2 ∧
      Fn Try.prog 10 [.s (.sl 0 0 128), .s (.int .u32 (4 * i : Nat)), .s (.int .i64 16)] [⟨false, 1, wsv X⟩] (· = ⟨.a (.agg [.int .u32 BA, .int .i64 BN, .sl 1 0 BN]), [], [⟨true, 6, MV⟩]⟩) ∧
      Fn Try.prog 23 [.agg [.int .u32 BA, .int .i64 BN, .sl 0 0 BN]] [⟨false, 6, MV⟩] (· = ⟨.a (.agg b.C), [], []⟩) ∧
      Fn Try.prog 16 [.s (.sl 0 0 c.length), .agg b.C] [⟨false, 3, bks c⟩] (· = ⟨.a (.s (.sl 1 0 C2.length)), [], [⟨true, 3, bks C2⟩]⟩) := by
  have h8 : 4 * i < 4294967296 := by omega
  have h16 : c.length ≤ 1000000 := Nat.le_trans hC.1 (by decide)
  have cb := rbuildA_fn X 128 (4 * i) 16 hxl (by decide) h8 hxr _ rfl
  obtain ⟨f1, f2, f3, f4, f5⟩ := fdB_ok X 128 (4 * i) 16 h8 hxr
  exact ⟨_, _, _, _, _, mcs_scal _, ⟨insL_len _ _ hC.1, insL_ok _ _ hC.2 f2⟩, coh_ins X 128 c _ (fd_self X hxl hxr i hi) hP, cb, f5, insert_fn c _ rfl h16 hC.2 (fdB X 128 (4 * i) 16) f2 _ rfl _ rfl⟩
theorem stepInv (X : List Nat) (hxl : X.length = 128) (c : List Bk) (i w : Nat) (hC : CI c) (hP : CohP X 128 c) :
    ∃ C2 : List Bk, CI C2 ∧ CohP (X.set i w) 128 C2 ∧
      Fn Try.prog 18 [.s (.sl 0 0 c.length), .s (.int .i64 ((i / 32 : Nat) : Int))] [⟨false, 3, bks c⟩] (· = ⟨.a (.s (.sl 1 0 C2.length)), [], [⟨true, 3, bks C2⟩]⟩) := by
  have h16 : c.length ≤ 1000000 := Nat.le_trans hC.1 (by decide)
  have h2 := coh_set X 128 c i w hP
  refine ⟨_, ⟨h2.1, fun e he => hC.2 e (List.mem_filter.1 he).1⟩, h2, invalidate_fn c _ rfl h16 hC.2 _ _ rfl _ rfl⟩
def cost (i p K : Nat) (LL AA XX CC : List SV) : St :=
  ⟨[(1, .a (.s (.sl 1 0 p))), (5, .a (.s (.sl 2 0 128))), (6, .a (.s (.sl 3 0 K))), (7, .a (.s (.int .i64 i)))], [(0, some ⟨false, 1, LL⟩), (1, some ⟨false, 1, AA⟩), (2, some ⟨true, 1, XX⟩), (3, some ⟨true, 3, CC⟩)], [0]⟩
theorem wset_lt (X : List Nat) (i w : Nat) (hw : w < 4294967296) (h : ∀ y ∈ X, y < 4294967296) : ∀ y ∈ X.set i w, y < 4294967296 := fun y hy => by
  rcases List.mem_or_eq_of_mem_set hy with h1 | h1
  · exact h y h1
  · omega
set_option maxHeartbeats 4000000 in
set_option maxRecDepth 100000 in
theorem coheres17_fn (ls acs : List Int) (n p : Nat) (hn : ls.length = n) (hp : acs.length = p) (hn2 : n ≤ 9223372036854775807) :
    Fn Try.prog 4 [.s (.sl 0 0 n), .s (.sl 1 0 p)] [⟨false, 1, isv .i64 ls⟩, ⟨false, 1, isv .i64 acs⟩] (· = ⟨.a (.s (.bool true)), [], []⟩) := by
  have hs1 := isv_scal .i64 ls
  have hs2 := isv_scal .i64 acs
  have cc := code17_fn ls n hn hn2
  have hxr := c17_lt ls 128
  have hxl := c17_len ls 128
  have hs3 := wsv_scal (c17 ls 128)
  have hget := fun i (h : i < p) => isv_get .i64 acs i (by omega)
  generalize hX : c17 ls 128 = X at *
  clear hX
  by_cases hg : 40 < p
  · generalize isv .i64 ls = LL at *
    generalize isv .i64 acs = AA at *
    clear cc hs3 hxr hxl
    refine fn_of_vc mixed tys_ok _ _ Try.func4 (by kernel_rfl) rfl Try.ntmps4 (by rw [Try.results4]) rfl ?_; dsimp only [argTm, argHl, Nat.zero_add, Nat.reduceAdd, List.length_nil, List.length_cons]
    (repeat' ((conv => whnf); first | ((first | apply Br.mk | apply Gd.mk) <;> (intro hb; first | exact aK2 hb | (simp only [d1, d2, beq_iff_eq, bne_iff_ne, d3, d4, d5, d6, Int.not_lt, Int.not_le, ge_iff_le, gt_iff_lt, ne_eq, d7] at hb; first | (exfalso; omega) | skip) | skip))  |  (refine Eqs.mk _ (eqt_ok _ _ rfl _ _ _ rfl) ?_)  |  (refine vcall_pure (awake17_fn) rfl ?_) | ((with_reducible apply Vl.mk (α := Nat)); · exact aNt) | (with_reducible apply sd_draw; · kernel_rfl) | (apply Sd.mk; · exact aSd) | ((with_reducible apply Vl.mk (α := Int)); · exact aAr) | ((with_reducible first | apply Vl.mk (α := Bool) | apply Vl.mk (α := Nat) | apply Vl.mk (α := ByteArray) | apply Ge.mk (α := Row) | apply Ge.mk (α := SV) | apply Ge.mk (α := AV)); · exact rfl) | (refine And.intro rfl ?_) | ((with_reducible first | apply Vl.mk (α := List SV) | apply Vl.mk (α := Ef) | apply Vl.mk (α := TV) | apply Ge.mk (α := List SV) | apply Sg.mk | apply Sk.mk); · exact aCl) | ((first | apply Br.mk | apply Gd.mk) <;> (intro hb; first | exact aKl hb | (simp only [d1, d2, beq_iff_eq, bne_iff_ne, d3, d4, d5, d6, Int.not_lt, Int.not_le, ge_iff_le, gt_iff_lt, ne_eq, d7] at hb; first | (exfalso; omega) | skip) | skip)) | (apply Sd.mk; · exact aS2))); (all_goals (try (conv => whnf)))
    all_goals first | ((apply Fin.mk (m := [(0, some 0), (1, some 1)]); (focus exact rfl); (all_goals ((try (show HlS _ _ [] _)); first | (exact aFi) | exact rfl))); done) | (exfalso; omega) | trace_state
  generalize isv .i64 ls = LL at *
  generalize isv .i64 acs = AA at *
  obtain ⟨X0, hX0⟩ : ∃ X0, wsv X = X0 := ⟨_, rfl⟩
  rw [hX0] at cc hs3
  refine fn_of_vc mixed tys_ok _ _ Try.func4 (by kernel_rfl) rfl Try.ntmps4 (by rw [Try.results4]) rfl ?_; dsimp only [argTm, argHl, Nat.zero_add, Nat.reduceAdd, List.length_nil, List.length_cons]
  (repeat' ((conv => whnf); first | ((first | apply Br.mk | apply Gd.mk) <;> (intro hb; first | exact aK2 hb | (simp only [d1, d2, beq_iff_eq, bne_iff_ne, d3, d4, d5, d6, Int.not_lt, Int.not_le, ge_iff_le, gt_iff_lt, ne_eq, d7] at hb; first | (exfalso; omega) | skip) | skip))  |  (refine Eqs.mk _ (eqt_ok _ _ rfl _ _ _ rfl) ?_)  |  (refine vcall_det (cc) [⟨_, 0⟩] [(_, _)] rfl ⟨rfl, trivial⟩ ⟨rfl, rowM_ro (by assumption), trivial⟩ ⟨rfl, up_ok rfl⟩ ?_) | ((with_reducible apply Vl.mk (α := Nat)); · exact aNt) | (with_reducible apply sd_draw; · kernel_rfl) | (apply Sd.mk; · exact aSd) | ((with_reducible apply Vl.mk (α := Int)); · exact aAr) | ((with_reducible first | apply Vl.mk (α := Bool) | apply Vl.mk (α := Nat) | apply Vl.mk (α := ByteArray) | apply Ge.mk (α := Row) | apply Ge.mk (α := SV) | apply Ge.mk (α := AV)); · exact rfl) | (refine And.intro rfl ?_) | ((with_reducible first | apply Vl.mk (α := List SV) | apply Vl.mk (α := Ef) | apply Vl.mk (α := TV) | apply Ge.mk (α := List SV) | apply Sg.mk | apply Sk.mk); · exact aCl) | ((first | apply Br.mk | apply Gd.mk) <;> (intro hb; first | exact aKl hb | (simp only [d1, d2, beq_iff_eq, bne_iff_ne, d3, d4, d5, d6, Int.not_lt, Int.not_le, ge_iff_le, gt_iff_lt, ne_eq, d7] at hb; first | (exfalso; omega) | skip) | skip)) | (apply Sd.mk; · exact aS2))); (all_goals (try (conv => whnf)))
  all_goals first | (exfalso; omega) | skip
  refine Lp.inv (fun mm σ => ∃ (i : Nat) (xs : List Nat) (c : List Bk), mm + i = p ∧ xs.length = 128 ∧ (∀ y ∈ xs, y < 4294967296) ∧ CI c ∧ CohP xs 128 c ∧ σ = cost i p c.length LL AA (wsv xs) (bks c)) ?_ ?_
  · refine ⟨p, cost 0 p 0 LL AA X0 [], ?_, 0, X, [], by omega, hxl, hxr, ⟨by decide, (fun b hb => by cases hb)⟩, (cohP_iff _ _ _).2 ⟨by decide, (fun b hb => by cases hb), List.nodup_nil⟩, by rw [hX0]; rfl⟩
    (apply wk_of (m := [(0, some 0), (1, some 1), (2, some _), (3, none)]); (focus ((repeat' (first | exact tml_nil | apply tml_cons)); all_goals (exact aFi))); (focus ((show HlS _ _ [] _); (exact aFi))); (focus (first | exact rfl | rfl | kernel_rfl)))
  clear hX0 hs3 hxr hxl cc hn
  rintro mm σ ⟨i, xs, c, hmi, hxl, hxr, hC, hP, rfl⟩
  unfold cost
  have h2 := bks_scal c
  have h3 := wsv_scal xs
  by_cases hi : i < p
  case neg =>
    have h16 : c.length ≤ 16 := hC.1
    generalize bks c = V1 at *
    generalize c.length = K1 at *
    generalize wsv xs = XX at *
    clear hP hC
    (repeat' ((conv => whnf); first | ((first | apply Br.mk | apply Gd.mk) <;> (intro hb; first | exact aK2 hb | (simp only [d1, d2, beq_iff_eq, bne_iff_ne, d3, d4, d5, d6, Int.not_lt, Int.not_le, ge_iff_le, gt_iff_lt, ne_eq, d7] at hb; first | (exfalso; omega) | skip) | skip))  |  (refine Eqs.mk _ (eqt_ok _ _ rfl _ _ _ rfl) ?_)  |  (refine vcall_pure (awake17_fn) rfl ?_) | ((with_reducible apply Vl.mk (α := Nat)); · exact aNt) | (with_reducible apply sd_draw; · kernel_rfl) | (apply Sd.mk; · exact aSd) | ((with_reducible apply Vl.mk (α := Int)); · exact aAr) | ((with_reducible first | apply Vl.mk (α := Bool) | apply Vl.mk (α := Nat) | apply Vl.mk (α := ByteArray) | apply Ge.mk (α := Row) | apply Ge.mk (α := SV) | apply Ge.mk (α := AV)); · exact rfl) | (refine And.intro rfl ?_) | ((with_reducible first | apply Vl.mk (α := List SV) | apply Vl.mk (α := Ef) | apply Vl.mk (α := TV) | apply Ge.mk (α := List SV) | apply Sg.mk | apply Sk.mk); · exact aCl) | ((first | apply Br.mk | apply Gd.mk) <;> (intro hb; first | exact aKl hb | (simp only [d1, d2, beq_iff_eq, bne_iff_ne, d3, d4, d5, d6, Int.not_lt, Int.not_le, ge_iff_le, gt_iff_lt, ne_eq, d7] at hb; first | (exfalso; omega) | skip) | skip)) | (apply Sd.mk; · exact aS2))); (all_goals (try (conv => whnf)))
    all_goals first | (exfalso; omega) | (apply Fin.mk (m := [(0, some 0), (1, some 1)]); (focus exact rfl); (all_goals ((try (show HlS _ _ [] _)); first | (exact aFi) | exact rfl))) | trace_state
  have ga := hget i hi
  have cm := mix_fn (acs.getD i 0) 15
  obtain ⟨hv1, hv2⟩ := mix_range (acs.getD i 0) 15
  generalize acs.getD i 0 = ac at *
  generalize mix ac 15 = v at *
  obtain ⟨V, rfl⟩ : ∃ V : Nat, v = (V : Int) := ⟨v.toNat, by omega⟩
  have q2 : IntKind.i64.wrap ((i : Int) + 1) = ((i + 1 : Nat) : Int) := by rw [wi64 (by omega) (by omega)]; omega
  obtain ⟨I, hI, hIc⟩ : ∃ I : Nat, I < 128 ∧ V % 128 = I := ⟨_, Nat.mod_lt _ (by decide), rfl⟩
  have r1 : Int.tmod (V : Int) ((128 : Nat) : Int) = (I : Int) := by rw [Int.tmod_eq_emod_of_nonneg (by omega)]; omega
  have e10 : (V : Int) / 2 ^ min (Int.toNat 10) IntKind.i64.bits = ((V / 1024 : Nat) : Int) := by rw [show (2 : Int) ^ min (Int.toNat 10) IntKind.i64.bits = 1024 from rfl]; omega
  have e12 : (V : Int) / 2 ^ min (Int.toNat 12) IntKind.i64.bits = ((V / 4096 : Nat) : Int) := by rw [show (2 : Int) ^ min (Int.toNat 12) IntKind.i64.bits = 4096 from rfl]; omega
  obtain ⟨Z, hZ, hZc⟩ : ∃ Z : Nat, Z < 4 ∧ V / 1024 % 4 = Z := ⟨_, Nat.mod_lt _ (by decide), rfl⟩
  have r4 : Int.tmod ((V / 1024 : Nat) : Int) 4 = (Z : Int) := by rw [Int.tmod_eq_emod_of_nonneg (by omega)]; omega
  have r5 : IntKind.i64.wrap (Int.tdiv (I : Int) 32) = ((I / 32 : Nat) : Int) := by rw [Int.tdiv_eq_ediv_of_nonneg (by omega), wi64 (by omega) (by omega)]; omega
  have r6 : IntKind.i64.wrap (4 * (I : Int)) = ((4 * I : Nat) : Int) := by rw [wi64 (by omega) (by omega)]; omega
  have r7 : IntKind.u32.wrap ((4 * I : Nat) : Int) = ((4 * I : Nat) : Int) := wu32 (by omega) (by omega)
  by_cases hz : Z = 0
  · subst hz
    obtain ⟨W, hW, hWc⟩ : ∃ W : Nat, W < 4294967296 ∧ V / 4096 % 4294967296 = W := ⟨_, Nat.mod_lt _ (by decide), rfl⟩
    have r3 : bits .and .i64 ((V / 4096 : Nat) : Int) 4294967295 = (W : Int) := by rw [and32q]; omega
    have r8 : IntKind.u32.wrap (W : Int) = (W : Int) := wu32 (by omega) (by omega)
    obtain ⟨C2, hC2, hP2, cf⟩ := stepInv xs hxl c I W hC hP
    have hst := set17 xs I W (by omega)
    have hx3 := wset_lt xs I W hW hxr
    have hl3 : (xs.set I W).length = 128 := by simp; exact hxl
    have hXl : (wsv xs).length = 128 := by rw [wsv_len']; exact hxl
    have ch := coherent17_fn _ 128 hl3 (by decide) hx3 C2 _ rfl (Nat.le_trans hC2.1 (by decide)) hC2.2 true (by simp [hP2])
    have s3 := bks_scal C2
    have s4 := wsv_scal (xs.set I W)
    have x1 : 0 + ((I : Nat) : Int).toNat * ty24.size = I := by show 0 + ((I : Nat) : Int).toNat * 1 = I; omega
    clear hP hC hIc hZc hWc
    generalize hXS : xs.set I W = XS at *
    generalize hV2 : bks C2 = V2 at *
    generalize bks c = V1 at *
    generalize c.length = K1 at *
    generalize wsv xs = XX at *
    generalize hX2 : wsv XS = X2 at *
    generalize V / 1024 = V10 at *
    generalize V / 4096 = V12 at *
    obtain ⟨K2, hK2⟩ : ∃ K2, C2.length = K2 := ⟨_, rfl⟩
    rw [hK2] at cf ch
    (repeat' ((conv => whnf); first | ((first | apply Br.mk | apply Gd.mk) <;> (intro hb; first | exact aK2 hb | (simp only [d1, d2, beq_iff_eq, bne_iff_ne, d3, d4, d5, d6, Int.not_lt, Int.not_le, ge_iff_le, gt_iff_lt, ne_eq, d7] at hb; first | (exfalso; omega) | skip) | skip))  |  (refine Eqs.mk _ (eqt_ok _ _ rfl _ _ _ rfl) ?_)  |  ((with_reducible apply Ge.mk (α := SV)); · exact ga)  |  ((with_reducible apply Vl.mk (α := Int)); · with_reducible first | exact q2 | exact r1 | exact e10 | exact e12 | exact r4 | exact r5 | exact r3 | exact r8 | (trace_state; fail))  |  ((with_reducible apply Vl.mk (α := Nat)); · with_reducible exact x1)  |  (apply Sd.mk; · first | (show (0 : Int) ≤ I ∧ (I : Int) < ((128 : Nat) : Int); omega) | omega | (refine ⟨rfl, rfl, rfl, ?_⟩; show _ + 1 ≤ XX.length; omega))  |  ((with_reducible apply Vl.mk (α := List SV)); · with_reducible exact hst)  |  (refine vcall_pure (cm) rfl ?_)  |  (refine vcall_det (cf) [⟨_, 0⟩] [(_, _)] rfl ⟨rfl, trivial⟩ ⟨rfl, rowM_ro (by assumption), trivial⟩ ⟨rfl, up_ok rfl⟩ ?_)  |  (refine vcall_det (ch) [⟨_, 0⟩, ⟨_, 0⟩] [(_, _), (_, _)] rfl ⟨rfl, rfl, trivial⟩ ⟨rfl, rowM_ro (by assumption), rfl, rowM_ro (by assumption), trivial⟩ ⟨rfl, up_ok rfl⟩ ?_) | ((with_reducible apply Vl.mk (α := Nat)); · exact aNt) | (with_reducible apply sd_draw; · kernel_rfl) | (apply Sd.mk; · exact aSd) | ((with_reducible apply Vl.mk (α := Int)); · exact aAr) | ((with_reducible first | apply Vl.mk (α := Bool) | apply Vl.mk (α := Nat) | apply Vl.mk (α := ByteArray) | apply Ge.mk (α := Row) | apply Ge.mk (α := SV) | apply Ge.mk (α := AV)); · exact rfl) | (refine And.intro rfl ?_) | ((with_reducible first | apply Vl.mk (α := List SV) | apply Vl.mk (α := Ef) | apply Vl.mk (α := TV) | apply Ge.mk (α := List SV) | apply Sg.mk | apply Sk.mk); · exact aCl) | ((first | apply Br.mk | apply Gd.mk) <;> (intro hb; first | exact aKl hb | (simp only [d1, d2, beq_iff_eq, bne_iff_ne, d3, d4, d5, d6, Int.not_lt, Int.not_le, ge_iff_le, gt_iff_lt, ne_eq, d7] at hb; first | (exfalso; omega) | skip) | skip)) | (apply Sd.mk; · exact aS2))); (all_goals (try (conv => whnf)))
    all_goals first
      | (exfalso; simp at hb; done)
      | (refine ⟨mm - 1, cost (i + 1) p K2 LL AA X2 V2, by omega, ?_, i + 1, XS, C2, by omega, hl3, hx3, hC2, hP2, by rw [hV2, hK2, hX2]; rfl⟩
         (apply wk_of (m := [(0, some 0), (1, some 1), (2, some _), (3, some _)]); (focus ((repeat' (first | exact tml_nil | apply tml_cons)); all_goals (exact aFi))); (focus ((show HlS _ _ [] _); (exact aFi))); (focus (first | exact rfl | rfl | kernel_rfl))))
      | trace_state
  · obtain ⟨C2, b, ok, hC2, hl2, hco, cf⟩ := stepFind c (4 * I) hC
    have s3 := bks_scal C2
    cases ok with
    | true =>
      have hP2 := hco rfl xs 128 hP
      have ch := coherent17_fn xs 128 hxl (by decide) hxr C2 _ rfl (Nat.le_trans hC2.1 (by decide)) hC2.2 true (by simp [hP2])
      clear hP hC hIc hZc hco
      rw [hl2] at ch
      generalize hV2 : bks C2 = V2 at *
      generalize bks c = V1 at *
      generalize hXX : wsv xs = XX at *
      generalize c.length = K1 at *
      generalize V / 1024 = V10 at *
      generalize V / 4096 = V12 at *
      obtain ⟨bA, bL, bl_⟩ := b
      dsimp only [Bk.C] at cf
      generalize mzs bl_ = M at *
      generalize bl_.length = NL at *
      (repeat' ((conv => whnf); first | ((first | apply Br.mk | apply Gd.mk) <;> (intro hb; first | exact aK2 hb | (simp only [d1, d2, beq_iff_eq, bne_iff_ne, d3, d4, d5, d6, Int.not_lt, Int.not_le, ge_iff_le, gt_iff_lt, ne_eq, d7] at hb; first | (exfalso; omega) | skip) | skip))  |  (refine Eqs.mk _ (eqt_ok _ _ rfl _ _ _ rfl) ?_)  |  ((with_reducible apply Ge.mk (α := SV)); · exact ga)  |  ((with_reducible apply Vl.mk (α := Int)); · with_reducible first | exact q2 | exact r1 | exact e10 | exact r4 | exact r6 | exact r7)  |  (refine vcall_pure (cm) rfl ?_)  |  (refine vcall_det (cf) [⟨_, 0⟩] [(_, _)] rfl ⟨rfl, trivial⟩ ⟨rfl, rowM_ro (by assumption), trivial⟩ ⟨rfl, up_ok rfl⟩ ?_)  |  (refine vcall_det (ch) [⟨_, 0⟩, ⟨_, 0⟩] [(_, _), (_, _)] rfl ⟨rfl, rfl, trivial⟩ ⟨rfl, rowM_ro (by assumption), rfl, rowM_ro (by assumption), trivial⟩ ⟨rfl, up_ok rfl⟩ ?_) | ((with_reducible apply Vl.mk (α := Nat)); · exact aNt) | (with_reducible apply sd_draw; · kernel_rfl) | (apply Sd.mk; · exact aSd) | ((with_reducible apply Vl.mk (α := Int)); · exact aAr) | ((with_reducible first | apply Vl.mk (α := Bool) | apply Vl.mk (α := Nat) | apply Vl.mk (α := ByteArray) | apply Ge.mk (α := Row) | apply Ge.mk (α := SV) | apply Ge.mk (α := AV)); · exact rfl) | (refine And.intro rfl ?_) | ((with_reducible first | apply Vl.mk (α := List SV) | apply Vl.mk (α := Ef) | apply Vl.mk (α := TV) | apply Ge.mk (α := List SV) | apply Sg.mk | apply Sk.mk); · exact aCl) | ((first | apply Br.mk | apply Gd.mk) <;> (intro hb; first | exact aKl hb | (simp only [d1, d2, beq_iff_eq, bne_iff_ne, d3, d4, d5, d6, Int.not_lt, Int.not_le, ge_iff_le, gt_iff_lt, ne_eq, d7] at hb; first | (exfalso; omega) | skip) | skip)) | (apply Sd.mk; · exact aS2))); (all_goals (try (conv => whnf)))
      all_goals first
        | (exfalso; simp at hb; done)
        | (refine ⟨mm - 1, cost (i + 1) p K1 LL AA XX V2, by omega, ?_, i + 1, xs, C2, by omega, hxl, hxr, hC2, hP2, by rw [hV2, hl2, hXX]; rfl⟩
           (apply wk_of (m := [(0, some 0), (1, some 1), (2, some _), (3, some _)]); (focus ((repeat' (first | exact tml_nil | apply tml_cons)); all_goals (exact aFi))); (focus ((show HlS _ _ [] _); (exact aFi))); (focus (first | exact rfl | rfl | kernel_rfl))))
        | trace_state
    | false =>
      obtain ⟨F, C3, BN, BA, MV, hMV, hC3, hP3, cb, f5, ci⟩ := stepIns xs hxl hxr c I hI hC hP
      have ch := coherent17_fn xs 128 hxl (by decide) hxr C3 _ rfl (Nat.le_trans hC3.1 (by decide)) hC3.2 true (by simp [hP3])
      have s4 := bks_scal C3
      clear hP hC hIc hZc hco
      generalize hV3 : bks C3 = V3 at *
      generalize hV2 : bks C2 = V2 at *
      generalize bks c = V1 at *
      generalize hXX : wsv xs = XX at *
      generalize c.length = K1 at *
      generalize V / 1024 = V10 at *
      generalize V / 4096 = V12 at *
      obtain ⟨K3, hK3⟩ : ∃ K3, C3.length = K3 := ⟨_, rfl⟩
      rw [hK3] at ci ch
      obtain ⟨bA, bL, bl_⟩ := b
      obtain ⟨FA, FL, Fl⟩ := F
      dsimp only [Bk.C] at cf ci f5
      generalize mzs bl_ = M at *
      generalize bl_.length = NL at *
      generalize mzs Fl = FM at *
      generalize Fl.length = FN at *
      (repeat' ((conv => whnf); first | ((first | apply Br.mk | apply Gd.mk) <;> (intro hb; first | exact aK2 hb | (simp only [d1, d2, beq_iff_eq, bne_iff_ne, d3, d4, d5, d6, Int.not_lt, Int.not_le, ge_iff_le, gt_iff_lt, ne_eq, d7] at hb; first | (exfalso; omega) | skip) | skip))  |  (refine Eqs.mk _ (eqt_ok _ _ rfl _ _ _ rfl) ?_)  |  ((with_reducible apply Ge.mk (α := SV)); · exact ga)  |  ((with_reducible apply Vl.mk (α := Int)); · with_reducible first | exact q2 | exact r1 | exact e10 | exact r4 | exact r6 | exact r7)  |  (refine vcall_pure (cm) rfl ?_)  |  (refine vcall_det (cf) [⟨_, 0⟩] [(_, _)] rfl ⟨rfl, trivial⟩ ⟨rfl, rowM_ro (by assumption), trivial⟩ ⟨rfl, up_ok rfl⟩ ?_)  |  (refine vcall_det (cb) [⟨_, 0⟩] [(_, _)] rfl ⟨rfl, trivial⟩ ⟨rfl, rowM_ro (by assumption), trivial⟩ ⟨rfl, up_ok rfl⟩ ?_)  |  (refine vcall_det (f5) [⟨_, 0⟩] [(_, _)] rfl ⟨rfl, trivial⟩ ⟨rfl, rowM_ro (by assumption), trivial⟩ ⟨rfl, up_ok rfl⟩ ?_)  |  (refine vcall_det (ci) [⟨_, 0⟩] [(_, _)] rfl ⟨rfl, trivial⟩ ⟨rfl, rowM_ro (by assumption), trivial⟩ ⟨rfl, up_ok rfl⟩ ?_)  |  (refine vcall_det (ch) [⟨_, 0⟩, ⟨_, 0⟩] [(_, _), (_, _)] rfl ⟨rfl, rfl, trivial⟩ ⟨rfl, rowM_ro (by assumption), rfl, rowM_ro (by assumption), trivial⟩ ⟨rfl, up_ok rfl⟩ ?_) | ((with_reducible apply Vl.mk (α := Nat)); · exact aNt) | (with_reducible apply sd_draw; · kernel_rfl) | (apply Sd.mk; · exact aSd) | ((with_reducible apply Vl.mk (α := Int)); · exact aAr) | ((with_reducible first | apply Vl.mk (α := Bool) | apply Vl.mk (α := Nat) | apply Vl.mk (α := ByteArray) | apply Ge.mk (α := Row) | apply Ge.mk (α := SV) | apply Ge.mk (α := AV)); · exact rfl) | (refine And.intro rfl ?_) | ((with_reducible first | apply Vl.mk (α := List SV) | apply Vl.mk (α := Ef) | apply Vl.mk (α := TV) | apply Ge.mk (α := List SV) | apply Sg.mk | apply Sk.mk); · exact aCl) | ((first | apply Br.mk | apply Gd.mk) <;> (intro hb; first | exact aKl hb | (simp only [d1, d2, beq_iff_eq, bne_iff_ne, d3, d4, d5, d6, Int.not_lt, Int.not_le, ge_iff_le, gt_iff_lt, ne_eq, d7] at hb; first | (exfalso; omega) | skip) | skip)) | (apply Sd.mk; · exact aS2))); (all_goals (try (conv => whnf)))
      all_goals first
        | (exfalso; simp at hb; done)
        | (refine ⟨mm - 1, cost (i + 1) p K3 LL AA XX V3, by omega, ?_, i + 1, xs, C3, by omega, hxl, hxr, hC3, hP3, by rw [hV3, hK3, hXX]; rfl⟩
           (apply wk_of (m := [(0, some 0), (1, some 1), (2, some _), (3, some _)]); (focus ((repeat' (first | exact tml_nil | apply tml_cons)); all_goals (exact aFi))); (focus ((show HlS _ _ [] _); (exact aFi))); (focus (first | exact rfl | rfl | kernel_rfl))))
        | trace_state
end Go.Proofs.Ytcaddlighhiepaa
