import Derived.Test.YtflaceijiphfdaaGreatP39
import Derived.Test.YtflaceijiphfdaaGreatP40
import Derived.Test.YtflaceijiphfdaaGreatP41
import Derived.Test.YtflaceijiphfdaaGreatP42
import Derived.Test.YtflaceijiphfdaaGreatP43
set_option linter.unusedSimpArgs false
set_option linter.unusedVariables false
set_option maxHeartbeats 0
set_option maxRecDepth 100000
namespace Go.Proofs.YtflaceijiphfdaaGreat
open Go Go.RowKit
theorem Qpy (E:Eg) (hE:E.ok) (hC:Coh E) (m:Mi) (hm:Qbn m) (hn:1<=m.n/\m.n<=16) :
  FN 77 [.s (.ptr 0 0),.agg m.C] E.H (. =(exO E m).1.R (.a (.s (.bool (exO E m).2)))):=by
 have gH:=hE.M.ml;have zB:(ldE E m).2.2=true->(ldE E m).2.1 / 4<E.M.m.length/\(ldE E m).2.1<4294967296:=(QeK E hE hC _ (szO m.o) 2 (QaE _) (QhB _) (.inr (.inl rfl))).in_;have YJ:=(QeK E hE hC (w32 ((E.M.x.getD m.b 0:Nat)+(m.k:Nat))) (szO m.o) 3 (QaE _) (QhB _) (.inr (.inr rfl))).in_;unfold exO
 by_cases jZ:m.o=24
 .rw [zP jZ]
  by_cases ha:m.a=0
  .exact QwR E hE m hm hn jZ ha
  .exact QwS E hE m hm hn jZ ha
 rw [zN jZ]
 by_cases h32:32<=m.o/\m.o<=34
 .rw [zP h32]
  cases hK:(ldE E m).2.2 with
  | false =>
   rw [zN (by decide)];rcases (show m.o=32\/m.o=33\/m.o=34 by omega) with h|h|h
   .exact Qs0 E hE m hm hn h zB hK
   .exact Qs1 E hE m hm hn h zB hK
   .exact Qs2 E hE m hm hn h zB hK
  | true =>
   rw [zP rfl]
   by_cases ha:m.a=0
   .rcases (show m.o=32\/m.o=33\/m.o=34 by omega) with h|h|h
    .exact Qpr E hE m hm hn h zB hK ha
    .exact Qpt E hE m hm hn h zB hK ha
    .exact Qpv E hE m hm hn h zB hK ha
   .rcases (show m.o=32\/m.o=33\/m.o=34 by omega) with h|h|h
    .exact Qps E hE m hm hn h zB hK ha
    .exact Qpu E hE m hm hn h zB hK ha
    .exact Qpw E hE m hm hn h zB hK ha
 rw [zN h32]
 by_cases vD:m.o=35\/m.o=36
 .rw [zP vD]
  cases hK:(stE E m).2 with
  | false =>
   rw [zN (by decide)];rcases vD with h|h
   .exact QpA E hE m hm hn h YJ hK
   .exact QpC E hE m hm hn h YJ hK
  | true =>
   rw [zP rfl];rcases vD with h|h
   .exact QpB E hE m hm hn h YJ hK
   .exact QpD E hE m hm hn h YJ hK
 rw [zN vD]
 by_cases h40:40<=m.o/\m.o<=45
 .rw [zP h40]
  cases ht:Qc7 m.o (E.M.x.getD m.a 0) (E.M.x.getD m.b 0) with
  | false =>
   rw [zN (by decide)];rcases (show m.o=40\/m.o=41\/m.o=42\/m.o=43\/m.o=44\/m.o=45 by omega) with h|h|h|h|h|h
   .exact Qpf E hE m hm hn ht h
   .exact Qph E hE m hm hn ht h
   .exact Qpj E hE m hm hn ht h
   .exact Qpl E hE m hm hn ht h
   .exact Qpn E hE m hm hn ht h
   .exact Qpp E hE m hm hn ht h
  | true =>
   rw [zP rfl];rcases (show m.o=40\/m.o=41\/m.o=42\/m.o=43\/m.o=44\/m.o=45 by omega) with h|h|h|h|h|h
   .exact Qpg E hE m hm hn ht h
   .exact Qpi E hE m hm hn ht h
   .exact Qpk E hE m hm hn ht h
   .exact Qpm E hE m hm hn ht h
   .exact Qpo E hE m hm hn ht h
   .exact Qpq E hE m hm hn ht h
 rw [zN h40]
 by_cases h48:m.o=48
 .rw [zP h48]
  by_cases ha:m.a=0
  .exact QwP E hE m hm hn h48 ha
  .exact QwQ E hE m hm hn h48 ha
 rw [zN h48]
 by_cases h49:m.o=49
 .rw [zP h49]
  by_cases ha:m.a=0
  .exact QwT E hE m hm hn h49 ha
  .exact QwU E hE m hm hn h49 ha
 rw [zN h49];have hx:¬ m.o=24/\¬ (32<=m.o/\m.o<=36)/\¬ (40<=m.o/\m.o<=45)/\¬ m.o=48/\¬ m.o=49:=by omega
 cases gZ:QbS m.o with
 | false =>
  rw [zN (by decide)]
  by_cases jX:m.o<=13
  .exact QsZ E hE m hm hn hx jX gZ
  .exact QsY E hE m hm hn hx jX gZ
 | true =>
  rw [zP rfl]
  by_cases jX:m.o<=13
  .rw [zP jX]
   by_cases ha:m.a=0
   .exact Qpd E hE m hm hn hx jX gZ ha
   .exact Qpe E hE m hm hn hx jX gZ ha
  .rw [zN jX]
   by_cases ha:m.a=0
   .exact Qpb E hE m hm hn hx jX gZ ha
   .exact Qpc E hE m hm hn hx jX gZ ha
end Go.Proofs.YtflaceijiphfdaaGreat
