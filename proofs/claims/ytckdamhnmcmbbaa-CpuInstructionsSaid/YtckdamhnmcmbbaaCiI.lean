/- CpuInstructions: the law. -/
import Derived.Test.YtckdamhnmcmbbaaCiH
namespace Go.Proofs.Ytckdamhnmcmbbaa
open Go Go.RowKit
set_option linter.unusedSimpArgs false
set_option linter.unusedVariables false

theorem both_all (x : List Nat) (pc w : Nat) (o a b c m : Int) (xs : List Nat) (hx : x.length = 16) (hrl : ∀ y ∈ x, y < 4294967296) (hl : xs.length = 128) (hxs : ∀ y ∈ xs, y < 4294967296) (hpc : pc < 512) (hld : ld4 128 pc = true) (hw : xs.getD (pc / 4) 0 = w) (hwl : w < 4294967296)
    (he : (w : Int) = encV o a b c m) (hv : rvV o a b c m = true) (hmr : -2147483648 ≤ m ∧ m ≤ 2147483647) (ho : opOk o) : Both x pc xs := by
  obtain ⟨g1, g2, g3, g4, g5, g6⟩ := dec_enc hv he
  have hd1 := decode_ok w hwl g6
  rw [g1, g2, g3, g4, g5] at hd1
  have hd2 := rdecode_fn w hwl hv he
  obtain ⟨v1, v2, v3, v4, v5, v6, v7, v8, v9⟩ := of_decide_eq_true hv
  obtain ⟨A, rfl⟩ : ∃ A : Nat, a = (A : Int) := ⟨a.toNat, by omega⟩
  obtain ⟨B, rfl⟩ : ∃ B : Nat, b = (B : Int) := ⟨b.toNat, by omega⟩
  obtain ⟨C, rfl⟩ : ∃ C : Nat, c = (C : Int) := ⟨c.toNat, by omega⟩
  have hA : A < 16 := by omega
  have hB : B < 16 := by omega
  have hC : C < 16 := by omega
  obtain ⟨m', hm⟩ : ∃ m' : Nat, IntKind.u32.wrap m = (m' : Int) := ⟨(IntKind.u32.wrap m).toNat, by rw [wu32']; omega⟩
  have hm' : m' < 4294967296 := by rw [wu32'] at hm; omega
  obtain ⟨x0, x1, x2, x3, x4, x5, x6, x7, x8, x9, x10, x11, x12, x13, x14, x15, rfl⟩ := len16 hx
  unfold opOk at ho
  have hcase : (1 ≤ o ∧ o ≤ 13) ∨ (16 ≤ o ∧ o ≤ 23) ∨ o = 24 ∨ o = 32 ∨ o = 33 ∨ o = 34 ∨ o = 35 ∨ o = 36 ∨ (40 ≤ o ∧ o ≤ 45) ∨ o = 48 ∨ o = 49 ∨ o = 56 ∨ o = 57 ∨ o = 58 ∨ o = 59 ∨ o = 60 ∨ o = 61 ∨ o = 62 ∨ o = 63 ∨ o = 64 := by omega
  rcases hcase with h | h | h | h | h | h | h | h | h | h | h | h | h | h | h | h | h | h | h | h
  · exact both_alu3 x0 x1 x2 x3 x4 x5 x6 x7 x8 x9 x10 x11 x12 x13 x14 x15 pc w A B C m' o m xs hrl hl hxs hpc hld hw hd1 hd2 hA hB hC hm hm' h
  · exact both_alui x0 x1 x2 x3 x4 x5 x6 x7 x8 x9 x10 x11 x12 x13 x14 x15 pc w A B C m' o m xs hrl hl hxs hpc hld hw hd1 hd2 hA hB hC hm hm' h
  · exact both_lui x0 x1 x2 x3 x4 x5 x6 x7 x8 x9 x10 x11 x12 x13 x14 x15 pc w A B C m' o m xs hrl hl hxs hpc hld hw hd1 hd2 hA hB hC hm hm' h
  · have hC0 : C = 0 := by
      rw [h, show formV 32 = 3 from rfl] at v7; omega
    exact both_32 x0 x1 x2 x3 x4 x5 x6 x7 x8 x9 x10 x11 x12 x13 x14 x15 pc w A B C m' o m xs hrl hl hxs hpc hld hw hd1 hd2 hA hB hC hm hm' h hC0
  · have hC0 : C = 0 := by
      rw [h, show formV 33 = 3 from rfl] at v7; omega
    exact both_33 x0 x1 x2 x3 x4 x5 x6 x7 x8 x9 x10 x11 x12 x13 x14 x15 pc w A B C m' o m xs hrl hl hxs hpc hld hw hd1 hd2 hA hB hC hm hm' h hC0
  · have hC0 : C = 0 := by
      rw [h, show formV 34 = 3 from rfl] at v7; omega
    exact both_34 x0 x1 x2 x3 x4 x5 x6 x7 x8 x9 x10 x11 x12 x13 x14 x15 pc w A B C m' o m xs hrl hl hxs hpc hld hw hd1 hd2 hA hB hC hm hm' h hC0
  · have hC0 : C = 0 := by
      rw [h, show formV 35 = 3 from rfl] at v7; omega
    exact both_35 x0 x1 x2 x3 x4 x5 x6 x7 x8 x9 x10 x11 x12 x13 x14 x15 pc w A B C m' o m xs hrl hl hxs hpc hld hw hd1 hd2 hA hB hC hm hm' h hC0
  · have hC0 : C = 0 := by
      rw [h, show formV 36 = 3 from rfl] at v7; omega
    exact both_36 x0 x1 x2 x3 x4 x5 x6 x7 x8 x9 x10 x11 x12 x13 x14 x15 pc w A B C m' o m xs hrl hl hxs hpc hld hw hd1 hd2 hA hB hC hm hm' h hC0
  · exact both_br x0 x1 x2 x3 x4 x5 x6 x7 x8 x9 x10 x11 x12 x13 x14 x15 pc w A B C m' o m xs hrl hl hxs hpc hld hw hd1 hd2 hA hB hC hm hm' h
  · exact both_jal x0 x1 x2 x3 x4 x5 x6 x7 x8 x9 x10 x11 x12 x13 x14 x15 pc w A B C m' o m xs hrl hl hxs hpc hld hw hd1 hd2 hA hB hC hm hm' h
  · exact both_jalr x0 x1 x2 x3 x4 x5 x6 x7 x8 x9 x10 x11 x12 x13 x14 x15 pc w A B C m' o m xs hrl hl hxs hpc hld hw hd1 hd2 hA hB hC hm hm' h
  · exact both_ecall x0 x1 x2 x3 x4 x5 x6 x7 x8 x9 x10 x11 x12 x13 x14 x15 pc w A B C m' o m xs hrl hl hxs hpc hld hw hd1 hd2 hA hB hC hm hm' h
  · exact both_eret x0 x1 x2 x3 x4 x5 x6 x7 x8 x9 x10 x11 x12 x13 x14 x15 pc w A B C m' o m xs hrl hl hxs hpc hld hw hd1 hd2 hA hB hC hm hm' h
  · rw [h, show formV 58 = 8 from rfl, show loV 8 = 0 from rfl] at v5
    rw [h, show formV 58 = 8 from rfl, show hiV 8 = 7 from rfl] at v6
    exact both_csrr x0 x1 x2 x3 x4 x5 x6 x7 x8 x9 x10 x11 x12 x13 x14 x15 pc w A B C m' o m xs hrl hl hxs hpc hld hw hd1 hd2 hA hB hC hm hm' h m.toNat (by omega) (by omega)
  · exact both_csrw x0 x1 x2 x3 x4 x5 x6 x7 x8 x9 x10 x11 x12 x13 x14 x15 pc w A B C m' o m xs hrl hl hxs hpc hld hw hd1 hd2 hA hB hC hm hm' h hmr
  · exact both_in x0 x1 x2 x3 x4 x5 x6 x7 x8 x9 x10 x11 x12 x13 x14 x15 pc w A B C m' o m xs hrl hl hxs hpc hld hw hd1 hd2 hA hB hC hm hm' h hmr
  · exact both_out x0 x1 x2 x3 x4 x5 x6 x7 x8 x9 x10 x11 x12 x13 x14 x15 pc w A B C m' o m xs hrl hl hxs hpc hld hw hd1 hd2 hA hB hC hm hm' h hmr
  · exact both_wfi x0 x1 x2 x3 x4 x5 x6 x7 x8 x9 x10 x11 x12 x13 x14 x15 pc w A B C m' o m xs hrl hl hxs hpc hld hw hd1 hd2 hA hB hC hm hm' h
  · exact both_flush x0 x1 x2 x3 x4 x5 x6 x7 x8 x9 x10 x11 x12 x13 x14 x15 pc w A B C m' o m xs hrl hl hxs hpc hld hw hd1 hd2 hA hB hC hm hm' h
  · exact both_halt x0 x1 x2 x3 x4 x5 x6 x7 x8 x9 x10 x11 x12 x13 x14 x15 pc w A B C m' o m xs hrl hl hxs hpc hld hw hd1 hd2 hA hB hC hm hm' h
set_option maxHeartbeats 2000000 in
set_option maxRecDepth 1000000 in
theorem instructions_fn (ls : List Int) (k : Nat) (n : Int) (p : Nat) (hl : ls.length = k) (hk : k ≤ 9223372036854775807) (hp : p < 4294967296) :
    Fn Try.prog 6 [.s (.int .i64 n), .s (.sl 0 0 k), .s (.int .u32 p)] [⟨false, 1, isv .i64 ls⟩] (· = ⟨.a (.s (.bool true)), [], []⟩) := by
  have c1 := inst_fn n
  obtain ⟨o, a, b, cc, m, hi, hv, hm, hm2, hio⟩ := inst_ok n
  rw [hi] at c1
  have hop := io_ok n
  rw [← hio] at hop
  have c3 := encode_fn o a b cc m ⟨hm, hm2⟩ hv
  have hel := enc_lt hv
  obtain ⟨w, hw⟩ : ∃ w : Nat, (w : Int) = encV o a b cc m := ⟨(encV o a b cc m).toNat, by omega⟩
  rw [← hw] at c3
  have hwl : w < 4294967296 := by omega
  have hq := pcA_lt p
  have q1 := pcA_1 p
  have q2 := pcA_2 p
  have q3 := pcA_3 p
  generalize pcA p = q at *
  have c4 := placed_fn ls k q w hl hk hq.1 hwl
  have hml : ((memL ls 128).set (q / 4) w).length = 128 := by rw [List.length_set, memL_len]
  have hg := set_get (memL ls 128) (q / 4) w (by rw [memL_len]; omega)
  have hmt := set_lt (memL_lt ls 128) (q / 4) w hwl
  generalize (memL ls 128).set (q / 4) w = M at *
  have hrl := regsV_len ls
  have hrt := regsV_lt ls
  generalize regsV ls = rg at *
  obtain ⟨x', pc', c', ys, e0, e1, e2, e3, hx', hc', hys, c5, c6⟩ := both_all rg q w o a b cc m M hrl hrt hml hmt hq.1 (ld128 q hq.1 hq.2) hg hwl hw hv ⟨hm, hm2⟩ hop
  have c7 := same_fn ys 128 hys (by omega)
  have hsM : allScal (wsv M) = true := wsv_scal M
  have hsY : allScal (wsv ys) = true := wsv_scal ys
  have k1 := cpu_refl x' pc' c' hx' hc'
  have hs : allScal (cpuC x' pc' c') = true := allScal_append (wsv_scal _) (wsv_scal _)
  have hcl : (cpuC x' pc' c').length = 25 := by unfold cpuC; simp [hx', hc']
  have hck : allKnown (cpuC x' pc' c') = true := cpu_known _ _ _
  have hsa : ∀ L : List SV, L.length = 25 → setAll L 0 (cpuC x' pc' c') = cpuC x' pc' c' := fun L hL => setAll_all (by rw [hL, hcl])
  generalize cpuC x' pc' c' = C' at *
  obtain ⟨x0, x1, x2, x3, x4, x5, x6, x7, x8, x9, x10, x11, x12, x13, x14, x15, rfl⟩ := len16 hrl
  clear hv hw hop hmt hrt
  refine fn_of_vc mixed tys_ok _ _ Try.func6 (by kernel_rfl) rfl Try.ntmps6 (by rw [Try.results6]) rfl ?_; dsimp only [argTm, argHl, Nat.zero_add, Nat.reduceAdd, List.length_nil, List.length_cons]
  (repeat' ((conv => whnf); first | (refine Eqs.mk true (eqt_ok _ ks25 rfl _ _ _ (by with_reducible exact k1)) ?_)  |  ((first | apply Br.mk | apply Gd.mk) <;> (intro hb; first | (exact absurd hb (by decide)) | exact Bool.noConfusion (hb.symm.trans (by assumption) : true = false) | exact Bool.noConfusion (hb.symm.trans (by assumption) : false = true) | (exfalso; revert hb; simp only [beq_self_eq_true, Bool.and_true, Bool.and_self, reduceCtorEq, false_implies, bne_self_eq_false, imp_false, not_true_eq_false, not_false_eq_true, Bool.true_eq_false, Bool.false_eq_true]; done) | (simp only [decide_eq_true_eq, decide_eq_false_iff_not, beq_iff_eq, bne_iff_ne, beq_eq_false_iff_ne, bne_eq_false_iff_eq, Bool.not_eq_true', Bool.not_eq_false', Int.not_lt, Int.not_le, ge_iff_le, gt_iff_lt, ne_eq, Classical.not_not] at hb; first | (exfalso; omega) | skip) | skip))  |  (refine Eqs.mk _ (eqt_ok _ _ rfl _ _ _ rfl) ?_)  |  ((with_reducible apply Vl.mk (α := Int)); · with_reducible first | exact q1 | exact q2 | exact q3)  |  (refine vcall_pure (f := 26) (c1) rfl ?_)  |  (refine vcall_pure (f := 25) (c3) rfl ?_)  |  (refine vcall_det (f := 27) c4 [⟨0, 0⟩] [(0, ⟨false, 1, isv .i64 ls⟩)] rfl ⟨rfl, trivial⟩ ⟨rfl, rowM_ro (isv_scal _ _), trivial⟩ ⟨rfl, noUp⟩ ?_)  |  (refine vcall_det (f := 28) c5 [⟨_, 0⟩] [(_, ⟨true, 1, wsv M⟩)] rfl ⟨rfl, trivial⟩ ⟨rfl, rowM_ro hsM, trivial⟩ ⟨rfl, noUp⟩ ?_)  |  (refine vcall_det (f := 29) c6 [⟨_, 0⟩] [(_, ⟨true, 1, wsv M⟩)] rfl ⟨rfl, trivial⟩ ⟨rfl, rowM_ro hsM, trivial⟩ ⟨rfl, noUp⟩ ?_)  |  (refine vcall_det (f := 30) c7 [⟨_, 0⟩, ⟨_, 0⟩] [(_, ⟨true, 1, wsv ys⟩), (_, ⟨true, 1, wsv ys⟩)] rfl ⟨rfl, rfl, trivial⟩ ⟨rfl, rowM_ro hsY, rfl, rowM_ro hsY, trivial⟩ ⟨rfl, noUp⟩ ?_)  |  (apply Sd.mk; · exact ⟨hcl, hck, rfl, by show 0 + C'.length ≤ 25; omega⟩)  |  ((with_reducible apply Vl.mk (α := List SV)); · (with_reducible refine hsa _ ?_); (focus exact rfl))  |  (apply Sg.mk; · exact sg_all C' hcl)  |  (refine vcall_pure (f := 18) (awake_fn) rfl ?_) | (with_reducible apply sd_draw; · kernel_rfl) | (apply Sd.mk; · first | exact rfl | trivial | omega | (repeat' apply And.intro) <;> first | exact rfl | exact Nat.le_of_ble_eq_true rfl | omega | decide) | ((with_reducible apply Vl.mk (α := Int)); · (first | (with_reducible exact bits_keep _ _ _ _) | ((rewrite [tdiv_pos]); (focus (first | exact wi64 (by omega) (by omega) | exact wu32 (by omega) (by omega) | exact wi32 (by omega) (by omega))); omega) | exact tmod_pos (by omega) | exact wi64 (by omega) (by omega) | exact wu32 (by omega) (by omega) | exact wu32' _ | exact wu8 (by omega) (by omega) | exact wu64 (by omega) (by omega) | exact wi32 (by omega) (by omega) | rfl)) | ((with_reducible first | apply Vl.mk (α := Bool) | apply Vl.mk (α := Nat) | apply Vl.mk (α := ByteArray) | apply Ge.mk (α := Row) | apply Ge.mk (α := SV) | apply Ge.mk (α := AV)); · exact rfl) | (refine And.intro rfl ?_) | ((with_reducible first | apply Vl.mk (α := List SV) | apply Vl.mk (α := Ef) | apply Vl.mk (α := TV) | apply Ge.mk (α := List SV) | apply Sg.mk | apply Sk.mk); · (first | exact setAll_eq rfl | exact sg_all _ rfl | exact sk_all _ rfl rfl | ((first | apply sg_fc | apply sk_fc | (apply fc_eq; (conv => arg 1; whnf); apply fc_some) | apply fc_eq); (repeat' (first | exact fc_ren (wsv_scal _) | exact fc_ren (by assumption) | ((conv => arg 1; whnf); first | exact fc_nil | apply fc_cons | exact fc_int | exact fc_bool | exact fc_n | exact fc_ns | exact fc_ptr | exact fc_sl | exact fc_str | exact fc_unk | exact fc_fn | apply fc_s | apply fc_agg | apply fc_ta | apply fc_tup | exact fc_an | apply fc_ac | exact fc_tu | exact fc_nat | exact fc_bo | exact fc_none | apply fc_some | apply fc_pair | apply fc_row | apply fc_ef))); (all_goals exact rfl)) | ((dsimp only [Res.ef, renT, renA, renS, renN, nwN, upN, renRow, List.map_cons, List.map_nil, List.length_cons, List.length_nil]); first | done | exact rfl) | (dsimp only [setAll, List.set_cons_zero, List.set_cons_succ, List.cons_append, List.nil_append]; exact rfl) | exact rfl)) | ((first | apply Br.mk | apply Gd.mk) <;> (intro hb; first | (exact absurd hb (by decide)) | exact Bool.noConfusion (hb.symm.trans (by assumption) : true = false) | exact Bool.noConfusion (hb.symm.trans (by assumption) : false = true) | (simp only [decide_eq_true_eq, decide_eq_false_iff_not, beq_iff_eq, bne_iff_ne, beq_eq_false_iff_ne, bne_eq_false_iff_eq, Bool.not_eq_true', Bool.not_eq_false', Int.not_lt, Int.not_le, ge_iff_le, gt_iff_lt, ne_eq, Classical.not_not] at hb; first | (exfalso; omega) | skip) | skip)))); (all_goals (try (conv => whnf)))
  all_goals first | (refine fin_ro1 rfl (isv_scal _ _) rfl rfl) | trace_state
end Go.Proofs.Ytckdamhnmcmbbaa
