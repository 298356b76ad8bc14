/- The types of the program, as the abstract machine has them. -/
import Derived.Test.YthgikkibfbkoiaaAbsR
import Derived.Test.YthgikkibfbkoiaaProg
import Derived.KernelRfl
namespace Go.Proofs.Ythgikkibfbkoiaa
open Go

def ty2 : Ty := ⟨1, 8, [.int .i64 0], .int .i64⟩
def ty3 : Ty := ⟨1, 8, [.int .i64 0], .int .i64⟩
def ty4 : Ty := ⟨1, 1, [.bool false], .bool⟩
def ty5 : Ty := ⟨1, 1, [.int .u8 0], .int .u8⟩
def ty6 : Ty := ⟨1, 1, [.int .u8 0], .int .u8⟩
def ty7 : Ty := ⟨4, 24, [.int .i64 0, .int .i64 0, .bool false, .int .u8 0], .struct [(0, 2), (1, 3), (2, 4), (3, 6)]⟩
def ty8 : Ty := ⟨4, 24, [.int .i64 0, .int .i64 0, .bool false, .int .u8 0], .struct [(0, 2), (1, 3), (2, 4), (3, 6)]⟩
def ty9 : Ty := ⟨1, 16, [.str { data := #[] }], .str⟩
def ty10 : Ty := ⟨1, 16, [.str { data := #[] }], .str⟩
def ty11 : Ty := ⟨1, 16, [.str { data := #[] }], .str⟩
def ty12 : Ty := ⟨1, 8, [.int .u64 0], .int .u64⟩
def ty13 : Ty := ⟨2, 24, [.str { data := #[] }, .int .u64 0], .struct [(0, 9), (1, 12)]⟩
def ty14 : Ty := ⟨2, 24, [.str { data := #[] }, .int .u64 0], .struct [(0, 9), (1, 12)]⟩
def ty15 : Ty := ⟨1, 8, [.nil], .ptr 79⟩
def ty16 : Ty := ⟨1, 8, [.nil], .ptr 82⟩
def ty17 : Ty := ⟨1, 8, [.nil], .ptr 91⟩
def ty18 : Ty := ⟨1, 8, [.nil], .struct [(0, 17)]⟩
def ty19 : Ty := ⟨1, 8, [.nil], .struct [(0, 17)]⟩
def ty21 : Ty := ⟨1, 4, [.int .i32 0], .int .i32⟩
def ty22 : Ty := ⟨1, 24, [.nilsl], .slice 26⟩
def ty23 : Ty := ⟨1, 24, [.nilsl], .slice 3⟩
def ty24 : Ty := ⟨1, 4, [.int .u32 0], .int .u32⟩
def ty25 : Ty := ⟨4, 12, [.int .u32 0, .int .u32 0, .bool false, .bool false], .struct [(0, 24), (1, 24), (2, 4), (3, 4)]⟩
def ty26 : Ty := ⟨4, 12, [.int .u32 0, .int .u32 0, .bool false, .bool false], .struct [(0, 24), (1, 24), (2, 4), (3, 4)]⟩
def ty28 : Ty := ⟨1, 24, [.nilsl], .slice 24⟩
def ty36 : Ty := ⟨3, 16, [.int .u32 0, .int .u32 0, .int .i64 0], .struct [(0, 24), (1, 24), (2, 3)]⟩
def ty37 : Ty := ⟨3, 16, [.int .u32 0, .int .u32 0, .int .i64 0], .struct [(0, 24), (1, 24), (2, 3)]⟩
def ty44 : Ty := ⟨1, 8, [.int .u64 0], .int .u64⟩
def ty60 : Ty := ⟨1, 8, [.int .u64 0], .int .u64⟩
def ty78 : Ty := ⟨4, 40, [.nil, .nil, .nil, .str { data := #[] }], .struct [(0, 17), (1, 17), (2, 17), (3, 9)]⟩
def ty79 : Ty := ⟨4, 40, [.nil, .nil, .nil, .str { data := #[] }], .struct [(0, 17), (1, 17), (2, 17), (3, 9)]⟩
def ty80 : Ty := ⟨0, 0, [], .array 0 16⟩
def ty81 : Ty := ⟨0, 0, [], .struct [(0, 80)]⟩
def ty82 : Ty := ⟨0, 0, [], .struct [(0, 80)]⟩
def ty84 : Ty := ⟨1, 1, [.int .u8 0], .int .u8⟩
def ty85 : Ty := ⟨1, 1, [.int .u8 0], .int .u8⟩
def ty87 : Ty := ⟨1, 8, [.nil], .ptr 5⟩
def ty88 : Ty := ⟨1, 4, [.int .i32 0], .int .i32⟩
def ty89 : Ty := ⟨1, 4, [.int .i32 0], .int .i32⟩
theorem ty2_ok : TyOk Try.prog 2 ty2 := ⟨_, Try.t2, (Try.t2.zero).getD default, Try.underlying2, by kernel_rfl, rfl, rfl, by first | exact rfl | exact trivial | exact ⟨rfl, rfl⟩, rfl, rfl, rfl⟩
theorem ty3_ok : TyOk Try.prog 3 ty3 := ⟨_, Try.t3, (Try.t3.zero).getD default, Try.underlying3, by kernel_rfl, rfl, rfl, by first | exact rfl | exact trivial | exact ⟨rfl, rfl⟩, rfl, rfl, rfl⟩
theorem ty4_ok : TyOk Try.prog 4 ty4 := ⟨_, Try.t4, (Try.t4.zero).getD default, Try.underlying4, by kernel_rfl, rfl, rfl, by first | exact rfl | exact trivial | exact ⟨rfl, rfl⟩, rfl, rfl, rfl⟩
theorem ty5_ok : TyOk Try.prog 5 ty5 := ⟨_, Try.t5, (Try.t5.zero).getD default, Try.underlying5, by kernel_rfl, rfl, rfl, by first | exact rfl | exact trivial | exact ⟨rfl, rfl⟩, rfl, rfl, rfl⟩
theorem ty6_ok : TyOk Try.prog 6 ty6 := ⟨_, Try.t6, (Try.t6.zero).getD default, Try.underlying6, by kernel_rfl, rfl, rfl, by first | exact rfl | exact trivial | exact ⟨rfl, rfl⟩, rfl, rfl, rfl⟩
theorem ty7_ok : TyOk Try.prog 7 ty7 := ⟨_, Try.t7, (Try.t7.zero).getD default, Try.underlying7, by kernel_rfl, rfl, rfl, by first | exact rfl | exact trivial | exact ⟨rfl, rfl⟩, rfl, rfl, rfl⟩
theorem ty8_ok : TyOk Try.prog 8 ty8 := ⟨_, Try.t8, (Try.t8.zero).getD default, Try.underlying8, by kernel_rfl, rfl, rfl, by first | exact rfl | exact trivial | exact ⟨rfl, rfl⟩, rfl, rfl, rfl⟩
theorem ty9_ok : TyOk Try.prog 9 ty9 := ⟨_, Try.t9, (Try.t9.zero).getD default, Try.underlying9, by kernel_rfl, rfl, rfl, by first | exact rfl | exact trivial | exact ⟨rfl, rfl⟩, rfl, rfl, rfl⟩
theorem ty10_ok : TyOk Try.prog 10 ty10 := ⟨_, Try.t10, (Try.t10.zero).getD default, Try.underlying10, by kernel_rfl, rfl, rfl, by first | exact rfl | exact trivial | exact ⟨rfl, rfl⟩, rfl, rfl, rfl⟩
theorem ty11_ok : TyOk Try.prog 11 ty11 := ⟨_, Try.t11, (Try.t11.zero).getD default, Try.underlying11, by kernel_rfl, rfl, rfl, by first | exact rfl | exact trivial | exact ⟨rfl, rfl⟩, rfl, rfl, rfl⟩
theorem ty12_ok : TyOk Try.prog 12 ty12 := ⟨_, Try.t12, (Try.t12.zero).getD default, Try.underlying12, by kernel_rfl, rfl, rfl, by first | exact rfl | exact trivial | exact ⟨rfl, rfl⟩, rfl, rfl, rfl⟩
theorem ty13_ok : TyOk Try.prog 13 ty13 := ⟨_, Try.t13, (Try.t13.zero).getD default, Try.underlying13, by kernel_rfl, rfl, rfl, by first | exact rfl | exact trivial | exact ⟨rfl, rfl⟩, rfl, rfl, rfl⟩
theorem ty14_ok : TyOk Try.prog 14 ty14 := ⟨_, Try.t14, (Try.t14.zero).getD default, Try.underlying14, by kernel_rfl, rfl, rfl, by first | exact rfl | exact trivial | exact ⟨rfl, rfl⟩, rfl, rfl, rfl⟩
theorem ty15_ok : TyOk Try.prog 15 ty15 := ⟨_, Try.t15, (Try.t15.zero).getD default, Try.underlying15, by kernel_rfl, rfl, rfl, by first | exact rfl | exact trivial | exact ⟨rfl, rfl⟩, rfl, rfl, rfl⟩
theorem ty16_ok : TyOk Try.prog 16 ty16 := ⟨_, Try.t16, (Try.t16.zero).getD default, Try.underlying16, by kernel_rfl, rfl, rfl, by first | exact rfl | exact trivial | exact ⟨rfl, rfl⟩, rfl, rfl, rfl⟩
theorem ty17_ok : TyOk Try.prog 17 ty17 := ⟨_, Try.t17, (Try.t17.zero).getD default, Try.underlying17, by kernel_rfl, rfl, rfl, by first | exact rfl | exact trivial | exact ⟨rfl, rfl⟩, rfl, rfl, rfl⟩
theorem ty18_ok : TyOk Try.prog 18 ty18 := ⟨_, Try.t18, (Try.t18.zero).getD default, Try.underlying18, by kernel_rfl, rfl, rfl, by first | exact rfl | exact trivial | exact ⟨rfl, rfl⟩, rfl, rfl, rfl⟩
theorem ty19_ok : TyOk Try.prog 19 ty19 := ⟨_, Try.t19, (Try.t19.zero).getD default, Try.underlying19, by kernel_rfl, rfl, rfl, by first | exact rfl | exact trivial | exact ⟨rfl, rfl⟩, rfl, rfl, rfl⟩
theorem ty21_ok : TyOk Try.prog 21 ty21 := ⟨_, Try.t21, (Try.t21.zero).getD default, Try.underlying21, by kernel_rfl, rfl, rfl, by first | exact rfl | exact trivial | exact ⟨rfl, rfl⟩, rfl, rfl, rfl⟩
theorem ty22_ok : TyOk Try.prog 22 ty22 := ⟨_, Try.t22, (Try.t22.zero).getD default, Try.underlying22, by kernel_rfl, rfl, rfl, by first | exact rfl | exact trivial | exact ⟨rfl, rfl⟩, rfl, rfl, rfl⟩
theorem ty23_ok : TyOk Try.prog 23 ty23 := ⟨_, Try.t23, (Try.t23.zero).getD default, Try.underlying23, by kernel_rfl, rfl, rfl, by first | exact rfl | exact trivial | exact ⟨rfl, rfl⟩, rfl, rfl, rfl⟩
theorem ty24_ok : TyOk Try.prog 24 ty24 := ⟨_, Try.t24, (Try.t24.zero).getD default, Try.underlying24, by kernel_rfl, rfl, rfl, by first | exact rfl | exact trivial | exact ⟨rfl, rfl⟩, rfl, rfl, rfl⟩
theorem ty25_ok : TyOk Try.prog 25 ty25 := ⟨_, Try.t25, (Try.t25.zero).getD default, Try.underlying25, by kernel_rfl, rfl, rfl, by first | exact rfl | exact trivial | exact ⟨rfl, rfl⟩, rfl, rfl, rfl⟩
theorem ty26_ok : TyOk Try.prog 26 ty26 := ⟨_, Try.t26, (Try.t26.zero).getD default, Try.underlying26, by kernel_rfl, rfl, rfl, by first | exact rfl | exact trivial | exact ⟨rfl, rfl⟩, rfl, rfl, rfl⟩
theorem ty28_ok : TyOk Try.prog 28 ty28 := ⟨_, Try.t28, (Try.t28.zero).getD default, Try.underlying28, by kernel_rfl, rfl, rfl, by first | exact rfl | exact trivial | exact ⟨rfl, rfl⟩, rfl, rfl, rfl⟩
theorem ty36_ok : TyOk Try.prog 36 ty36 := ⟨_, Try.t36, (Try.t36.zero).getD default, Try.underlying36, by kernel_rfl, rfl, rfl, by first | exact rfl | exact trivial | exact ⟨rfl, rfl⟩, rfl, rfl, rfl⟩
theorem ty37_ok : TyOk Try.prog 37 ty37 := ⟨_, Try.t37, (Try.t37.zero).getD default, Try.underlying37, by kernel_rfl, rfl, rfl, by first | exact rfl | exact trivial | exact ⟨rfl, rfl⟩, rfl, rfl, rfl⟩
theorem ty44_ok : TyOk Try.prog 44 ty44 := ⟨_, Try.t44, (Try.t44.zero).getD default, Try.underlying44, by kernel_rfl, rfl, rfl, by first | exact rfl | exact trivial | exact ⟨rfl, rfl⟩, rfl, rfl, rfl⟩
theorem ty60_ok : TyOk Try.prog 60 ty60 := ⟨_, Try.t60, (Try.t60.zero).getD default, Try.underlying60, by kernel_rfl, rfl, rfl, by first | exact rfl | exact trivial | exact ⟨rfl, rfl⟩, rfl, rfl, rfl⟩
theorem ty78_ok : TyOk Try.prog 78 ty78 := ⟨_, Try.t78, (Try.t78.zero).getD default, Try.underlying78, by kernel_rfl, rfl, rfl, by first | exact rfl | exact trivial | exact ⟨rfl, rfl⟩, rfl, rfl, rfl⟩
theorem ty79_ok : TyOk Try.prog 79 ty79 := ⟨_, Try.t79, (Try.t79.zero).getD default, Try.underlying79, by kernel_rfl, rfl, rfl, by first | exact rfl | exact trivial | exact ⟨rfl, rfl⟩, rfl, rfl, rfl⟩
theorem ty80_ok : TyOk Try.prog 80 ty80 := ⟨_, Try.t80, (Try.t80.zero).getD default, Try.underlying80, by kernel_rfl, rfl, rfl, by first | exact rfl | exact trivial | exact ⟨rfl, rfl⟩, rfl, rfl, rfl⟩
theorem ty81_ok : TyOk Try.prog 81 ty81 := ⟨_, Try.t81, (Try.t81.zero).getD default, Try.underlying81, by kernel_rfl, rfl, rfl, by first | exact rfl | exact trivial | exact ⟨rfl, rfl⟩, rfl, rfl, rfl⟩
theorem ty82_ok : TyOk Try.prog 82 ty82 := ⟨_, Try.t82, (Try.t82.zero).getD default, Try.underlying82, by kernel_rfl, rfl, rfl, by first | exact rfl | exact trivial | exact ⟨rfl, rfl⟩, rfl, rfl, rfl⟩
theorem ty84_ok : TyOk Try.prog 84 ty84 := ⟨_, Try.t84, (Try.t84.zero).getD default, Try.underlying84, by kernel_rfl, rfl, rfl, by first | exact rfl | exact trivial | exact ⟨rfl, rfl⟩, rfl, rfl, rfl⟩
theorem ty85_ok : TyOk Try.prog 85 ty85 := ⟨_, Try.t85, (Try.t85.zero).getD default, Try.underlying85, by kernel_rfl, rfl, rfl, by first | exact rfl | exact trivial | exact ⟨rfl, rfl⟩, rfl, rfl, rfl⟩
theorem ty87_ok : TyOk Try.prog 87 ty87 := ⟨_, Try.t87, (Try.t87.zero).getD default, Try.underlying87, by kernel_rfl, rfl, rfl, by first | exact rfl | exact trivial | exact ⟨rfl, rfl⟩, rfl, rfl, rfl⟩
theorem ty88_ok : TyOk Try.prog 88 ty88 := ⟨_, Try.t88, (Try.t88.zero).getD default, Try.underlying88, by kernel_rfl, rfl, rfl, by first | exact rfl | exact trivial | exact ⟨rfl, rfl⟩, rfl, rfl, rfl⟩
theorem ty89_ok : TyOk Try.prog 89 ty89 := ⟨_, Try.t89, (Try.t89.zero).getD default, Try.underlying89, by kernel_rfl, rfl, rfl, by first | exact rfl | exact trivial | exact ⟨rfl, rfl⟩, rfl, rfl, rfl⟩
def tys : Tys := fun t => (match Nat.blt t 22 with | true => (match Nat.blt t 11 with | true => (match Nat.blt t 6 with | true => (match Nat.blt t 4 with | true => (match Nat.blt t 3 with | true => (match Nat.beq t 2 with | true => some ty2 | false => none) | false => (match Nat.beq t 3 with | true => some ty3 | false => none)) | false => (match Nat.blt t 5 with | true => (match Nat.beq t 4 with | true => some ty4 | false => none) | false => (match Nat.beq t 5 with | true => some ty5 | false => none))) | false => (match Nat.blt t 8 with | true => (match Nat.blt t 7 with | true => (match Nat.beq t 6 with | true => some ty6 | false => none) | false => (match Nat.beq t 7 with | true => some ty7 | false => none)) | false => (match Nat.blt t 9 with | true => (match Nat.beq t 8 with | true => some ty8 | false => none) | false => (match Nat.blt t 10 with | true => (match Nat.beq t 9 with | true => some ty9 | false => none) | false => (match Nat.beq t 10 with | true => some ty10 | false => none))))) | false => (match Nat.blt t 16 with | true => (match Nat.blt t 13 with | true => (match Nat.blt t 12 with | true => (match Nat.beq t 11 with | true => some ty11 | false => none) | false => (match Nat.beq t 12 with | true => some ty12 | false => none)) | false => (match Nat.blt t 14 with | true => (match Nat.beq t 13 with | true => some ty13 | false => none) | false => (match Nat.blt t 15 with | true => (match Nat.beq t 14 with | true => some ty14 | false => none) | false => (match Nat.beq t 15 with | true => some ty15 | false => none)))) | false => (match Nat.blt t 18 with | true => (match Nat.blt t 17 with | true => (match Nat.beq t 16 with | true => some ty16 | false => none) | false => (match Nat.beq t 17 with | true => some ty17 | false => none)) | false => (match Nat.blt t 19 with | true => (match Nat.beq t 18 with | true => some ty18 | false => none) | false => (match Nat.blt t 21 with | true => (match Nat.beq t 19 with | true => some ty19 | false => none) | false => (match Nat.beq t 21 with | true => some ty21 | false => none)))))) | false => (match Nat.blt t 78 with | true => (match Nat.blt t 28 with | true => (match Nat.blt t 24 with | true => (match Nat.blt t 23 with | true => (match Nat.beq t 22 with | true => some ty22 | false => none) | false => (match Nat.beq t 23 with | true => some ty23 | false => none)) | false => (match Nat.blt t 25 with | true => (match Nat.beq t 24 with | true => some ty24 | false => none) | false => (match Nat.blt t 26 with | true => (match Nat.beq t 25 with | true => some ty25 | false => none) | false => (match Nat.beq t 26 with | true => some ty26 | false => none)))) | false => (match Nat.blt t 37 with | true => (match Nat.blt t 36 with | true => (match Nat.beq t 28 with | true => some ty28 | false => none) | false => (match Nat.beq t 36 with | true => some ty36 | false => none)) | false => (match Nat.blt t 44 with | true => (match Nat.beq t 37 with | true => some ty37 | false => none) | false => (match Nat.blt t 60 with | true => (match Nat.beq t 44 with | true => some ty44 | false => none) | false => (match Nat.beq t 60 with | true => some ty60 | false => none))))) | false => (match Nat.blt t 84 with | true => (match Nat.blt t 80 with | true => (match Nat.blt t 79 with | true => (match Nat.beq t 78 with | true => some ty78 | false => none) | false => (match Nat.beq t 79 with | true => some ty79 | false => none)) | false => (match Nat.blt t 81 with | true => (match Nat.beq t 80 with | true => some ty80 | false => none) | false => (match Nat.blt t 82 with | true => (match Nat.beq t 81 with | true => some ty81 | false => none) | false => (match Nat.beq t 82 with | true => some ty82 | false => none)))) | false => (match Nat.blt t 87 with | true => (match Nat.blt t 85 with | true => (match Nat.beq t 84 with | true => some ty84 | false => none) | false => (match Nat.beq t 85 with | true => some ty85 | false => none)) | false => (match Nat.blt t 88 with | true => (match Nat.beq t 87 with | true => some ty87 | false => none) | false => (match Nat.blt t 89 with | true => (match Nat.beq t 88 with | true => some ty88 | false => none) | false => (match Nat.beq t 89 with | true => some ty89 | false => none)))))))
theorem tys_ok : TysOk Try.prog tys := by
  intro t y h
  unfold tys at h
  repeat' split at h
  all_goals first
    | (cases h; done)
    | (injection h with h; subst h; rename_i hb; obtain rfl := Nat.eq_of_beq_eq_true hb; first | with_reducible exact ty2_ok | with_reducible exact ty3_ok | with_reducible exact ty4_ok | with_reducible exact ty5_ok | with_reducible exact ty6_ok | with_reducible exact ty7_ok | with_reducible exact ty8_ok | with_reducible exact ty9_ok | with_reducible exact ty10_ok | with_reducible exact ty11_ok | with_reducible exact ty12_ok | with_reducible exact ty13_ok | with_reducible exact ty14_ok | with_reducible exact ty15_ok | with_reducible exact ty16_ok | with_reducible exact ty17_ok | with_reducible exact ty18_ok | with_reducible exact ty19_ok | with_reducible exact ty21_ok | with_reducible exact ty22_ok | with_reducible exact ty23_ok | with_reducible exact ty24_ok | with_reducible exact ty25_ok | with_reducible exact ty26_ok | with_reducible exact ty28_ok | with_reducible exact ty36_ok | with_reducible exact ty37_ok | with_reducible exact ty44_ok | with_reducible exact ty60_ok | with_reducible exact ty78_ok | with_reducible exact ty79_ok | with_reducible exact ty80_ok | with_reducible exact ty81_ok | with_reducible exact ty82_ok | with_reducible exact ty84_ok | with_reducible exact ty85_ok | with_reducible exact ty87_ok | with_reducible exact ty88_ok | with_reducible exact ty89_ok)
theorem tybz : ty2.bytes = 8 ∧ ty3.bytes = 8 ∧ ty4.bytes = 1 ∧ ty5.bytes = 1 ∧ ty6.bytes = 1 ∧ ty7.bytes = 24 ∧ ty8.bytes = 24 ∧ ty9.bytes = 16 ∧ ty10.bytes = 16 ∧ ty11.bytes = 16 ∧ ty12.bytes = 8 ∧ ty13.bytes = 24 ∧ ty14.bytes = 24 ∧ ty15.bytes = 8 ∧ ty16.bytes = 8 ∧ ty17.bytes = 8 ∧ ty18.bytes = 8 ∧ ty19.bytes = 8 ∧ ty21.bytes = 4 ∧ ty22.bytes = 24 ∧ ty23.bytes = 24 ∧ ty24.bytes = 4 ∧ ty25.bytes = 12 ∧ ty26.bytes = 12 ∧ ty28.bytes = 24 ∧ ty36.bytes = 16 ∧ ty37.bytes = 16 ∧ ty44.bytes = 8 ∧ ty60.bytes = 8 ∧ ty78.bytes = 40 ∧ ty79.bytes = 40 ∧ ty80.bytes = 0 ∧ ty81.bytes = 0 ∧ ty82.bytes = 0 ∧ ty84.bytes = 1 ∧ ty85.bytes = 1 ∧ ty87.bytes = 8 ∧ ty88.bytes = 4 ∧ ty89.bytes = 4 := ⟨rfl, rfl, rfl, rfl, rfl, rfl, rfl, rfl, rfl, rfl, rfl, rfl, rfl, rfl, rfl, rfl, rfl, rfl, rfl, rfl, rfl, rfl, rfl, rfl, rfl, rfl, rfl, rfl, rfl, rfl, rfl, rfl, rfl, rfl, rfl, rfl, rfl, rfl, rfl⟩
theorem tysz : ty2.size = 1 ∧ ty3.size = 1 ∧ ty4.size = 1 ∧ ty5.size = 1 ∧ ty6.size = 1 ∧ ty7.size = 4 ∧ ty8.size = 4 ∧ ty9.size = 1 ∧ ty10.size = 1 ∧ ty11.size = 1 ∧ ty12.size = 1 ∧ ty13.size = 2 ∧ ty14.size = 2 ∧ ty15.size = 1 ∧ ty16.size = 1 ∧ ty17.size = 1 ∧ ty18.size = 1 ∧ ty19.size = 1 ∧ ty21.size = 1 ∧ ty22.size = 1 ∧ ty23.size = 1 ∧ ty24.size = 1 ∧ ty25.size = 4 ∧ ty26.size = 4 ∧ ty28.size = 1 ∧ ty36.size = 3 ∧ ty37.size = 3 ∧ ty44.size = 1 ∧ ty60.size = 1 ∧ ty78.size = 4 ∧ ty79.size = 4 ∧ ty80.size = 0 ∧ ty81.size = 0 ∧ ty82.size = 0 ∧ ty84.size = 1 ∧ ty85.size = 1 ∧ ty87.size = 1 ∧ ty88.size = 1 ∧ ty89.size = 1 := ⟨rfl, rfl, rfl, rfl, rfl, rfl, rfl, rfl, rfl, rfl, rfl, rfl, rfl, rfl, rfl, rfl, rfl, rfl, rfl, rfl, rfl, rfl, rfl, rfl, rfl, rfl, rfl, rfl, rfl, rfl, rfl, rfl, rfl, rfl, rfl, rfl, rfl, rfl, rfl⟩
end Go.Proofs.Ythgikkibfbkoiaa
