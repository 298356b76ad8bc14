/- The abstract machine for this program; small words for its walks. -/
import Derived.Test.YtcaddlighhiepaaTys
import Derived.Test.YtcaddlighhiepaaDrwA
namespace Go.Proofs.Ytcaddlighhiepaa
open Go Go.RowKit

theorem mixed : Try.prog.follows .mixedOrders = true := by kernel_rfl
theorem wi64 {x : Int} (h1 : -9223372036854775808 ≤ x) (h2 : x ≤ 9223372036854775807) : IntKind.i64.wrap x = x := by rw [IntKind.wrap_i64]; omega
theorem wu32 {x : Int} (h1 : 0 ≤ x) (h2 : x ≤ 4294967295) : IntKind.u32.wrap x = x := by
  show x % 4294967296 = x; omega
theorem wu32' (x : Int) : IntKind.u32.wrap x = x % 4294967296 := rfl
theorem wu8 {x : Int} (h1 : 0 ≤ x) (h2 : x ≤ 255) : IntKind.u8.wrap x = x := by show x % 256 = x; omega
theorem wu8' (x : Int) : IntKind.u8.wrap x = x % 256 := rfl
theorem wu64 {x : Int} (h1 : 0 ≤ x) (h2 : x ≤ 18446744073709551615) : IntKind.u64.wrap x = x := by show x % 18446744073709551616 = x; omega
theorem wu64' (x : Int) : IntKind.u64.wrap x = x % 18446744073709551616 := rfl
theorem wi32 {x : Int} (h1 : -2147483648 ≤ x) (h2 : x ≤ 2147483647) : IntKind.i32.wrap x = x := by
  have e : IntKind.i32.wrap x = if x % 4294967296 ≥ 2147483648 then x % 4294967296 - 4294967296 else x % 4294967296 := by
    unfold IntKind.wrap
    simp [IntKind.signed, IntKind.bits]
  rw [e]; split <;> omega
theorem setAll_all {c l : List SV} (h : c.length = l.length) : setAll c 0 l = l := by
  apply List.ext_getElem?
  intro j
  rw [setAll_get c 0 l j (by omega)]
  split
  · rfl
  · rename_i hj
    rw [List.getElem?_eq_none (by omega), List.getElem?_eq_none (by omega)]
theorem setAll_eq {c l : List SV} (h : Nat.beq c.length l.length = true) : setAll c 0 l = l := setAll_all (Nat.eq_of_beq_eq_true h)
theorem bits_keep (op : BinOp) (k : IntKind) (a b : Int) : bits op k a b = bits op k a b := rfl
theorem tdiv_pos {x y : Int} (h1 : 0 ≤ x) : x.tdiv y = x / y := Int.tdiv_eq_ediv_of_nonneg h1
theorem tmod_pos {x y : Int} (h1 : 0 ≤ x) : x.tmod y = x % y := Int.tmod_eq_emod_of_nonneg h1
theorem sd_draw {all : List Oper} {ds : List Did} {k : Prop} (h : drawF all ds = true) (hk : k) : Sd (drawB all ds = true) k := .mk (drawF_ok h) hk
/-- Forced: the same, with heads. -/
inductive Fc {α : Type} : α → α → Prop
  | mk {a b : α} (h : a = b) : Fc a b
theorem Fc.eq {α : Type} {a b : α} (h : Fc a b) : a = b := by cases h; assumption
theorem fc_eq {α : Type} {a b : α} (h : Fc a b) : a = b := h.eq
theorem fc_some {α : Type} {a b : α} (h : Fc a b) : Fc (some a) (some b) := ⟨h.eq ▸ rfl⟩
theorem fc_nil {α : Type} : Fc ([] : List α) [] := ⟨rfl⟩
theorem fc_cons {α : Type} {a b : α} {l m : List α} (h1 : Fc a b) (h2 : Fc l m) : Fc (a :: l) (b :: m) := ⟨by rw [h1.eq, h2.eq]⟩
theorem fc_int {k : IntKind} {x : Int} : Fc (SV.int k x) (.int k x) := ⟨rfl⟩
theorem fc_bool {b : Bool} : Fc (SV.bool b) (.bool b) := ⟨rfl⟩
theorem fc_n : Fc SV.nil .nil := ⟨rfl⟩
theorem fc_ns : Fc SV.nilsl .nilsl := ⟨rfl⟩
theorem fc_unk : Fc SV.unk .unk := ⟨rfl⟩
theorem fc_ptr {i o} : Fc (SV.ptr i o) (.ptr i o) := ⟨rfl⟩
theorem fc_sl {i o n} : Fc (SV.sl i o n) (.sl i o n) := ⟨rfl⟩
theorem fc_str {s} : Fc (SV.str s) (.str s) := ⟨rfl⟩
theorem fc_fn {f c} : Fc (SV.fn f c) (.fn f c) := ⟨rfl⟩
theorem fc_an : Fc ([] : List AV) [] := ⟨rfl⟩
theorem fc_ac {a b : AV} {l m : List AV} (h1 : Fc a b) (h2 : Fc l m) : Fc (a :: l) (b :: m) := ⟨by rw [h1.eq, h2.eq]⟩
theorem fc_s {a b : SV} (h : Fc a b) : Fc (AV.s a) (.s b) := ⟨by rw [h.eq]⟩
theorem fc_agg {a b : List SV} (h : Fc a b) : Fc (AV.agg a) (.agg b) := ⟨by rw [h.eq]⟩
theorem fc_ta {a b : AV} (h : Fc a b) : Fc (TV.a a) (.a b) := ⟨by rw [h.eq]⟩
theorem fc_tup {a b : List AV} (h : Fc a b) : Fc (TV.tup a) (.tup b) := ⟨by rw [h.eq]⟩
theorem fc_tu : Fc TV.unk .unk := ⟨rfl⟩
theorem fc_nat {n : Nat} : Fc n n := ⟨rfl⟩
theorem fc_bo {b : Bool} : Fc b b := ⟨rfl⟩
theorem fc_none {α : Type} : Fc (none : Option α) none := ⟨rfl⟩
theorem fc_pair {α β : Type} {a a' : α} {b b' : β} (h1 : Fc a a') (h2 : Fc b b') : Fc (a, b) (a', b') := ⟨by rw [h1.eq, h2.eq]⟩
theorem fc_row {o : Bool} {e e' : Nat} {c c' : List SV} (h1 : Fc e e') (h2 : Fc c c') : Fc (Row.mk o e c) ⟨o, e', c'⟩ := ⟨by rw [h1.eq, h2.eq]⟩
theorem fc_ef {v v' : TV} {u u' : List (Nat × Option Row)} {n n' : List (Nat × Row)} (h1 : Fc v v') (h2 : Fc u u') (h3 : Fc n n') : Fc (Ef.mk v u n) ⟨v', u', n'⟩ := ⟨by rw [h1.eq, h2.eq, h3.eq]⟩
theorem fc_is {l : List SV} : Fc l l := ⟨rfl⟩
/-- A row of words. -/
def wsv (xs : List Nat) : List SV := xs.map fun (x : Nat) => SV.int .u32 x
@[simp] theorem wsv_length (xs : List Nat) : (wsv xs).length = xs.length := by simp [wsv]
theorem wsv_get (xs : List Nat) (i : Nat) (h : i < xs.length) : (wsv xs)[i]? = some (.int .u32 (xs.getD i 0 : Nat)) := by
  unfold wsv; rw [List.getElem?_map, List.getElem?_eq_getElem h]; simp [List.getD, h]
theorem wsv_scal (xs : List Nat) : allScal (wsv xs) = true := by
  induction xs with
  | nil => rfl
  | cons x xs ih => exact ih
theorem wsv_known (xs : List Nat) : allKnown (wsv xs) = true := by
  induction xs with
  | nil => rfl
  | cons x xs ih => exact ih
theorem ren_scal {m : List Em} {k n0 : Nat} {l : List SV} (h : allScal l = true) : l.map (renS m k n0) = l := by
  induction l with
  | nil => rfl
  | cons s l ih =>
    unfold allScal at h
    cases e : s.scal with
    | false => rw [e] at h; cases h
    | true =>
      rw [e] at h
      rw [List.map_cons, ih h]
      cases s <;> simp [SV.scal] at e <;> rfl
theorem fc_ren {m : List Em} {k n0 : Nat} {l : List SV} (h : allScal l = true) : Fc (l.map (renS m k n0)) l := ⟨ren_scal h⟩
@[simp] theorem ren_wsv {m : List Em} {k n0 : Nat} (xs : List Nat) : (wsv xs).map (renS m k n0) = wsv xs := ren_scal (wsv_scal xs)
theorem sg_all {cells : List SV} {n : Nat} (l : List SV) (h : cells.length = n) (e : cells = l := by rfl) : l.length = n ∧ ∀ (j : Nat) s, l[j]? = some s → cells[0 + j]? = some s := by
  subst e; exact ⟨h, fun j s hs => by rw [Nat.zero_add]; exact hs⟩
theorem sg_lit {cells l : List SV} {o n : Nat} (h : (cells.drop o).take n = l) (hn : l.length = n) : l.length = n ∧ ∀ (j : Nat) s, l[j]? = some s → cells[o + j]? = some s := by
  subst h
  refine ⟨hn, fun j s hs => ?_⟩
  rw [List.getElem?_take] at hs
  split at hs
  · rw [List.getElem?_drop] at hs; exact hs
  · cases hs
theorem sg_fc {cells l : List SV} {o n : Nat} (h : Fc ((cells.drop o).take n) l) (hn : l.length = n) : l.length = n ∧ ∀ (j : Nat) s, l[j]? = some s → cells[o + j]? = some s := sg_lit h.eq hn
theorem sk_all {cells : List SV} {n : Nat} (l : List SV) (h : cells.length = n) (hk : allKnown cells = true) (e : cells = l := by rfl) : l.length = n ∧ allKnown l = true ∧ ∀ (j : Nat) s, l[j]? = some s → cells[0 + j]? = some s := by
  subst e; exact ⟨h, hk, fun j s hs => by rw [Nat.zero_add]; exact hs⟩
theorem sk_fc {cells l : List SV} {o n : Nat} (h : Fc ((cells.drop o).take n) l) (hn : l.length = n) (hk : allKnown l = true) : l.length = n ∧ allKnown l = true ∧ ∀ (j : Nat) s, l[j]? = some s → cells[o + j]? = some s :=
  ⟨hn, hk, (sg_lit h.eq hn).2⟩
/-- A call by a contract with one outcome. -/
theorem vcall_det {P : Program} {det : Bool} {f : FuncId} {l : List AV} {hp : Hp} {n0 : Nat} {K : KK} {args : List AV} {H : List Row} {R : Res} (hF : Fn P f args H (· = R)) (m : List Em) (fp : List (Nat × Row)) (h2 : l = args.map (renA m H.length n0)) (h3 : fpOk hp fp)
    (h4 : RowsM m H.length n0 0 m H fp) (h5 : Nat.ble R.nw.length stride = true ∧ ∀ p ∈ R.up, p.1 < H.length) (k : Vl (R.ef m H.length n0) fun e => K fp e) : Cll P det f l hp n0 K :=
  .mk args H m fp _ hF h2 h3 h4 (fun _ e => e ▸ ⟨Nat.le_of_ble_eq_true h5.1, h5.2⟩) (fun _ => ⟨R, rfl⟩) (fun _ e => e ▸ k)
theorem noUp {H : List Row} : ∀ p ∈ ([] : List (Nat × Option Row)), p.1 < H.length := fun _ h => by cases h
/-- A call of a function of numbers. -/
theorem vcall_pure {P : Program} {det : Bool} {f : FuncId} {l : List AV} {hp : Hp} {n0 : Nat} {K : KK} {args : List AV} {v : TV} (hF : Fn P f args [] (· = ⟨v, [], []⟩)) (h2 : l = args.map (renA [] 0 n0)) (k : Vl (renT [] 0 n0 v) fun v => K [] ⟨v, [], []⟩) : Cll P det f l hp n0 K :=
  vcall_det hF [] [] h2 trivial trivial ⟨rfl, noUp⟩ (by obtain ⟨z, h, k⟩ := k; exact ⟨_, rfl, by rw [← h] at k; exact k⟩)
theorem rowM_ro {mm : List Em} {k n0 i n es : Nat} {cells : List SV} {own : Bool} (h : allScal cells = true) : RowM mm k n0 i ⟨n, 0⟩ ⟨false, es, cells⟩ ⟨own, es, cells⟩ :=
  ⟨rfl, fun q s hs => by
    simp only [] at hs ⊢
    rw [Nat.zero_add, hs]
    have := allScal_mem h s (List.mem_of_getElem? hs)
    cases s <;> simp [SV.scal] at this <;> rfl, by simp, fun h => by cases h⟩
theorem rowM_rw {mm : List Em} {k n0 i n es : Nat} {cells : List SV} (h : allScal cells = true) (hi : ∀ (j : Nat) (f : Em), mm[j]? = some f → j ≠ i → f.n ≠ n) : RowM mm k n0 i ⟨n, 0⟩ ⟨true, es, cells⟩ ⟨true, es, cells⟩ :=
  ⟨rfl, fun q s hs => by
    simp only [] at hs ⊢
    rw [Nat.zero_add, hs]
    have := allScal_mem h s (List.mem_of_getElem? hs)
    cases s <;> simp [SV.scal] at this <;> rfl, by simp, fun _ => ⟨rfl, rfl, rfl, hi⟩⟩
def scalA : AV → Bool
  | .s s => s.scal
  | .agg l => allScal l
def scalAs : List AV → Bool
  | [] => true
  | x :: l => scalA x && scalAs l
def scalT : TV → Bool
  | .unk => true
  | .a x => scalA x
  | .tup l => scalAs l
theorem svsm_scal {m : Rn} : ∀ {l : List SV}, allScal l = true → SVsM m l l
  | [], _ => .nil
  | s :: l, h => by
    unfold allScal at h
    split at h
    · rename_i hs; exact .cons (svm_scal hs) (svsm_scal h)
    · cases h
theorem avm_scal {m : Rn} : ∀ {x : AV}, scalA x = true → AVm m x x
  | .s _, h => svm_scal h
  | .agg _, h => svsm_scal h
theorem avsm_scal {m : Rn} : ∀ {l : List AV}, scalAs l = true → AVsM m l l
  | [], _ => trivial
  | x :: l, h => by
    unfold scalAs at h
    simp at h
    exact ⟨avm_scal h.1, avsm_scal h.2⟩
theorem tvm_scal {m : Rn} : ∀ {x : TV}, scalT x = true → TVm m x x
  | .unk, _ => trivial
  | .a _, h => ⟨_, rfl, avm_scal h⟩
  | .tup _, h => ⟨_, rfl, avsm_scal h⟩
/-- A result of numbers. -/
theorem fin_pure {σ : St} {x v : TV} (hs : scalT v = true) (e : x = v) : Fin [] (· = ⟨v, [], []⟩) σ x := by
  subst e
  exact Fin.mk _ [] rfl (tvm_scal hs) trivial rfl
theorem allScal_append {l l' : List SV} (h : allScal l = true) (h' : allScal l' = true) : allScal (l ++ l') = true := by
  induction l with
  | nil => exact h'
  | cons s l ih =>
    unfold allScal at h
    cases e : s.scal with
    | false => rw [e] at h; cases h
    | true =>
      rw [e] at h
      show (match s.scal with | true => allScal (l ++ l') | false => false) = true
      rw [e]; exact ih h
/- At a call's end, piece by piece. -/
theorem tvm_a {m : Rn} {z y : AV} (h : AVm m z y) : TVm m (.a z) (.a y) := ⟨_, rfl, h⟩
theorem tvm_tup {m : Rn} {z y : List AV} (h : AVsM m z y) : TVm m (.tup z) (.tup y) := ⟨_, rfl, h⟩
theorem avm_agg {m : Rn} {z y : List SV} (h : SVsM m z y) : AVm m (.agg z) (.agg y) := h
theorem avm_s {m : Rn} {z y : SV} (h : SVm m z y) : AVm m (.s z) (.s y) := h
theorem avsm_nil {m : Rn} : AVsM m [] [] := trivial
theorem avsm_cons {m : Rn} {x y : AV} {l l' : List AV} (h : AVm m x y) (h' : AVsM m l l') : AVsM m (x :: l) (y :: l') := ⟨h, h'⟩
theorem svm_ptr {m : Rn} {n c o : Nat} (h : look m n = some (some c)) : SVm m (.ptr c o) (.ptr n o) := ⟨c, h, rfl⟩
theorem svm_sl {m : Rn} {n c o k : Nat} (h : look m n = some (some c)) : SVm m (.sl c o k) (.sl n o k) := .inl ⟨c, h, rfl⟩
theorem svm_slnil {m : Rn} {n o : Nat} (h : look m n = some none) : SVm m .nilsl (.sl n o 0) := .inr ⟨h, rfl, rfl⟩
theorem svm_fznil {m : Rn} {es : Nat} : SVm m .nilsl (.fz es 0 []) := .inr ⟨rfl, rfl, rfl⟩
theorem hls_nil {m : Rn} {hp : Hp} {s : List Nat} : HlS m hp s [] := trivial
theorem hls_skip {m : Rn} {hp : Hp} {s : List Nat} {p : Nat × Option Row} {l : Hl} (h : memB p.1 s = true) (h' : HlS m hp (p.1 :: s) l) : HlS m hp s (p :: l) := ⟨by rw [h]; trivial, h'⟩
theorem hls_none {m : Rn} {hp : Hp} {s : List Nat} {n : Nat} {l : Hl} (h' : HlS m hp (n :: s) l) : HlS m hp s ((n, none) :: l) := ⟨by cases memB n s <;> trivial, h'⟩
theorem hls_row {m : Rn} {hp : Hp} {s : List Nat} {n : Nat} {r : Row} {l : Hl} (h : RowMt m hp n r) (h' : HlS m hp (n :: s) l) : HlS m hp s ((n, some r) :: l) := ⟨by cases memB n s; exact h; trivial, h'⟩
theorem rowmt_mk {m : Rn} {hp : Hp} {n c : Nat} {r r' : Row} (h1 : look m n = some (some c)) (h2 : hp c = some r) (h3 : r.es = r'.es) (h4 : (!r'.own || (r.own && injB m n c)) = true) (h5 : SVsM m r.cells r'.cells) : RowMt m hp n r' :=
  .inl ⟨c, r, h1, h2, h3, fun h => by rw [h] at h4; simpa using h4, h5⟩
theorem rowmt_nil {m : Rn} {hp : Hp} {n : Nat} {r' : Row} (h1 : look m n = some none) (h2 : r'.cells = []) : RowMt m hp n r' := .inr ⟨h1, h2⟩
theorem tml_nil {m : Rn} {tm : Nat → TV} : TmL m tm [] := trivial
theorem tml_cons {m : Rn} {tm : Nat → TV} {t : Nat} {v : TV} {l : Tm} (h : TVm m (tm t) v) (h' : TmL m tm l) : TmL m tm ((t, v) :: l) := ⟨h, h'⟩
theorem svm_same {m : Rn} {s : SV} (h : s.scal = true) : SVm m s s := svm_scal h
/-- No other name leads to the row of the name i. -/
def othB (n : Nat) : Nat → Nat → List Em → Bool
  | _, _, [] => true
  | i, j, f :: l => (Nat.beq j i || !Nat.beq f.n n) && othB n i (j + 1) l
theorem oth_ok {n i : Nat} : ∀ {l : List Em} {s : Nat}, othB n i s l = true → ∀ (j : Nat) (f : Em), l[j]? = some f → s + j ≠ i → f.n ≠ n
  | f :: l, s, h, 0, g, e, hne => by
    injection e with e; subst e
    unfold othB at h
    rw [Bool.and_eq_true, Bool.or_eq_true] at h
    rcases h.1 with h | h
    · exact absurd (Nat.eq_of_beq_eq_true h) hne
    · intro e
      rw [e, Nat.beq_refl] at h
      cases h
  | f :: l, s, h, j + 1, g, e, hne => by
    unfold othB at h
    rw [Bool.and_eq_true] at h
    exact oth_ok h.2 j g e (by omega)
theorem rowM_hand {mm : List Em} {k n0 i n es : Nat} {cells : List SV} (h : allScal cells = true) (ho : othB n i 0 mm = true) : RowM mm k n0 i ⟨n, 0⟩ ⟨true, es, cells⟩ ⟨true, es, cells⟩ :=
  rowM_rw h fun j f hj hne => oth_ok ho j f hj (by omega)
/-- Only argument rows are changed. -/
def upB (n : Nat) : List (Nat × Option Row) → Bool
  | [] => true
  | p :: l => Nat.ble (p.1 + 1) n && upB n l
theorem up_ok {n : Nat} : ∀ {l : List (Nat × Option Row)}, upB n l = true → ∀ p ∈ l, p.1 < n
  | q :: l, h, p, hp => by
    unfold upB at h
    rw [Bool.and_eq_true] at h
    rcases List.mem_cons.1 hp with e | e
    · subst e; exact Nat.le_of_ble_eq_true h.1
    · exact up_ok h.2 p e
set_option linter.unusedSimpArgs false
theorem d1 {p : Prop} [Decidable p] : (decide p = true) = p := decide_eq_true_eq
theorem d2 {p : Prop} [Decidable p] : decide p = false ↔ ¬ p := decide_eq_false_iff_not
theorem d3 {α : Type} [BEq α] [LawfulBEq α] {a b : α} : (a == b) = false ↔ a ≠ b := beq_eq_false_iff_ne
theorem d4 {α : Type} [BEq α] [LawfulBEq α] {a b : α} : (a != b) = false ↔ a = b := bne_eq_false_iff_eq
theorem d5 (b : Bool) : ((!b) = true) = (b = false) := Bool.not_eq_true' b
theorem d6 {b : Bool} : ((!b) = false) = (b = true) := Bool.not_eq_false' b
theorem d7 {a : Prop} : ¬ ¬ a ↔ a := Classical.not_not
theorem aAr {P : Prop} (h : P := by (first | (with_reducible exact bits_keep _ _ _ _) | ((rewrite [tdiv_pos]); (focus (first | exact wi64 (by omega) (by omega) | exact wu32 (by omega) (by omega) | exact wi32 (by omega) (by omega))); omega) | exact tmod_pos (by omega) | exact wi64 (by omega) (by omega) | exact wu32 (by omega) (by omega) | exact wu32' _ | exact wu8 (by omega) (by omega) | exact wu64 (by omega) (by omega) | exact wi32 (by omega) (by omega) | rfl)) : P := h
theorem aCl {P : Prop} (h : P := by (first | exact setAll_eq rfl | exact sg_all _ rfl | exact sk_all _ rfl rfl | ((first | apply sg_fc | apply sk_fc | (apply fc_eq; (conv => arg 1; whnf); apply fc_some) | apply fc_eq); (repeat' (first | exact fc_ren (wsv_scal _) | exact fc_ren (by assumption) | ((conv => arg 1; whnf); first | exact fc_nil | apply fc_cons | exact fc_int | exact fc_bool | exact fc_n | exact fc_ns | exact fc_ptr | exact fc_sl | exact fc_str | exact fc_fz | exact fc_unk | exact fc_fn | apply fc_s | apply fc_agg | apply fc_ta | apply fc_tup | exact fc_an | apply fc_ac | exact fc_tu | exact fc_nat | exact fc_bo | exact fc_none | apply fc_some | apply fc_pair | apply fc_row | apply fc_ef))); (all_goals exact rfl)) | ((dsimp only [Res.ef, renT, renA, renS, renN, nwN, upN, renRow, List.map_cons, List.map_nil, List.length_cons, List.length_nil]); first | done | exact rfl) | (dsimp only [setAll, List.set_cons_zero, List.set_cons_succ, List.cons_append, List.nil_append]; exact rfl) | exact rfl)) : P := h
theorem aSd {P : Prop} (h : P := by (first | exact rfl | trivial | omega | (repeat' apply And.intro) <;> first | exact rfl | exact Nat.le_of_ble_eq_true rfl | omega | decide)) : P := h
theorem aNt {P : Prop} (h : P := by ((try simp only [tysz, tybz, Int.toNat_natCast, Int.toNat_zero, Int.toNat_one, Nat.zero_add, Nat.zero_mul, Nat.mul_one, Nat.one_mul, Nat.add_zero, Int.sub_zero, Option.getD_some, Option.getD_none, Int.toNat_natCast_add_one]); exact rfl)) : P := h
theorem aS2 {P : Prop} (h : P := by (repeat' apply And.intro) <;> (try simp only [tysz, tybz, Int.toNat_natCast, Int.toNat_zero, Int.toNat_one, Nat.zero_add, Nat.zero_mul, Nat.mul_one, Nat.one_mul, Nat.add_zero, Int.sub_zero, Option.getD_some, Option.getD_none, Int.toNat_natCast_add_one]) <;> first | exact rfl | omega) : P := h
theorem aFi {P : Prop} (h : P := by ((repeat' (first | exact SVsM.nil | exact avsm_nil | exact svm_same rfl | exact svm_ptr rfl | exact svm_sl rfl | exact svm_slnil rfl | exact svsm_scal rfl | exact svsm_scal (wsv_scal _) | exact svsm_scal (by assumption) | exact hls_nil | apply SVsM.cons | apply tvm_a | apply tvm_tup | apply avm_agg | apply avm_s | apply avsm_cons | exact trivial | (refine hls_skip rfl ?_) | apply hls_none | apply hls_row | (refine rowmt_mk rfl rfl rfl rfl ?_) | exact rowmt_nil rfl rfl)); first | done | fail)) : P := h
theorem aKl {b c : Bool} {P : Prop} (hb : b = c) (h : ¬ (b = c) := by intro hb; first | (exact absurd hb (by decide)) | exact Bool.noConfusion (hb.symm.trans (by assumption) : true = false) | exact Bool.noConfusion (hb.symm.trans (by assumption) : false = true)) : P := absurd hb h
theorem aK2 {b c : Bool} {P : Prop} (hb : b = c) (h : ¬ (b = c) := by first | (intro hb; first | (exact absurd hb (by decide)) | exact Bool.noConfusion (hb.symm.trans (by assumption) : true = false) | exact Bool.noConfusion (hb.symm.trans (by assumption) : false = true)) | (simp only [beq_self_eq_true, Bool.and_true, Bool.and_self, reduceCtorEq, false_implies, bne_self_eq_false, imp_false, not_true_eq_false, not_false_eq_true, Bool.true_eq_false, Bool.false_eq_true]; first | done | fail)) : P := absurd hb h

end Go.Proofs.Ytcaddlighhiepaa
