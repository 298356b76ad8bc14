/- The types of the program, as the abstract machine has them. -/
import Derived.Test.YtnmomjaockmdpaaAbsR
import Derived.Test.YtnmomjaockmdpaaProg
import Derived.KernelRfl
namespace Go.Proofs.Ytnmomjaockmdpaa
open Go

def ty2 : Ty := ⟨1, 8, [.int .i64 0], .int .i64⟩
def ty3 : Ty := ⟨1, 8, [.int .i64 0], .int .i64⟩
def ty4 : Ty := ⟨1, 1, [.bool false], .bool⟩
def ty5 : Ty := ⟨1, 1, [.int .u8 0], .int .u8⟩
def ty6 : Ty := ⟨1, 1, [.int .u8 0], .int .u8⟩
def ty7 : Ty := ⟨4, 24, [.int .i64 0, .int .i64 0, .bool false, .int .u8 0], .struct [(0, 2), (1, 3), (2, 4), (3, 6)]⟩
def ty8 : Ty := ⟨4, 24, [.int .i64 0, .int .i64 0, .bool false, .int .u8 0], .struct [(0, 2), (1, 3), (2, 4), (3, 6)]⟩
def ty9 : Ty := ⟨1, 16, [.str { data := #[] }], .str⟩
def ty10 : Ty := ⟨1, 16, [.str { data := #[] }], .str⟩
def ty11 : Ty := ⟨1, 16, [.str { data := #[] }], .str⟩
def ty12 : Ty := ⟨1, 8, [.int .u64 0], .int .u64⟩
def ty13 : Ty := ⟨2, 24, [.str { data := #[] }, .int .u64 0], .struct [(0, 9), (1, 12)]⟩
def ty14 : Ty := ⟨2, 24, [.str { data := #[] }, .int .u64 0], .struct [(0, 9), (1, 12)]⟩
def ty15 : Ty := ⟨1, 8, [.nil], .ptr 67⟩
def ty16 : Ty := ⟨1, 8, [.nil], .ptr 70⟩
def ty17 : Ty := ⟨1, 8, [.nil], .ptr 79⟩
def ty18 : Ty := ⟨1, 8, [.nil], .struct [(0, 17)]⟩
def ty19 : Ty := ⟨1, 8, [.nil], .struct [(0, 17)]⟩
def ty21 : Ty := ⟨1, 4, [.int .i32 0], .int .i32⟩
def ty22 : Ty := ⟨1, 24, [.nilsl], .slice 24⟩
def ty23 : Ty := ⟨1, 24, [.nilsl], .slice 3⟩
def ty24 : Ty := ⟨1, 4, [.int .u32 0], .int .u32⟩
def ty30 : Ty := ⟨1, 24, [.nilsl], .slice 40⟩
def ty36 : Ty := ⟨3, 16, [.int .u32 0, .int .u32 0, .int .i64 0], .struct [(0, 24), (1, 24), (2, 3)]⟩
def ty37 : Ty := ⟨3, 16, [.int .u32 0, .int .u32 0, .int .i64 0], .struct [(0, 24), (1, 24), (2, 3)]⟩
def ty39 : Ty := ⟨3, 12, [.int .u32 0, .int .u32 0, .int .u32 0], .struct [(0, 24), (1, 24), (2, 24)]⟩
def ty40 : Ty := ⟨3, 12, [.int .u32 0, .int .u32 0, .int .u32 0], .struct [(0, 24), (1, 24), (2, 24)]⟩
def ty45 : Ty := ⟨1, 8, [.int .u64 0], .int .u64⟩
def ty57 : Ty := ⟨1, 8, [.int .u64 0], .int .u64⟩
def ty66 : Ty := ⟨4, 40, [.nil, .nil, .nil, .str { data := #[] }], .struct [(0, 17), (1, 17), (2, 17), (3, 9)]⟩
def ty67 : Ty := ⟨4, 40, [.nil, .nil, .nil, .str { data := #[] }], .struct [(0, 17), (1, 17), (2, 17), (3, 9)]⟩
def ty68 : Ty := ⟨0, 0, [], .array 0 16⟩
def ty69 : Ty := ⟨0, 0, [], .struct [(0, 68)]⟩
def ty70 : Ty := ⟨0, 0, [], .struct [(0, 68)]⟩
def ty72 : Ty := ⟨1, 1, [.int .u8 0], .int .u8⟩
def ty73 : Ty := ⟨1, 1, [.int .u8 0], .int .u8⟩
def ty75 : Ty := ⟨1, 8, [.nil], .ptr 5⟩
def ty76 : Ty := ⟨1, 4, [.int .i32 0], .int .i32⟩
def ty77 : Ty := ⟨1, 4, [.int .i32 0], .int .i32⟩
theorem ty2_ok : TyOk Try.prog 2 ty2 := ⟨_, Try.t2, (Try.t2.zero).getD default, Try.underlying2, by kernel_rfl, rfl, rfl, by first | exact rfl | exact trivial | exact ⟨rfl, rfl⟩, rfl, rfl, rfl⟩
theorem ty3_ok : TyOk Try.prog 3 ty3 := ⟨_, Try.t3, (Try.t3.zero).getD default, Try.underlying3, by kernel_rfl, rfl, rfl, by first | exact rfl | exact trivial | exact ⟨rfl, rfl⟩, rfl, rfl, rfl⟩
theorem ty4_ok : TyOk Try.prog 4 ty4 := ⟨_, Try.t4, (Try.t4.zero).getD default, Try.underlying4, by kernel_rfl, rfl, rfl, by first | exact rfl | exact trivial | exact ⟨rfl, rfl⟩, rfl, rfl, rfl⟩
theorem ty5_ok : TyOk Try.prog 5 ty5 := ⟨_, Try.t5, (Try.t5.zero).getD default, Try.underlying5, by kernel_rfl, rfl, rfl, by first | exact rfl | exact trivial | exact ⟨rfl, rfl⟩, rfl, rfl, rfl⟩
theorem ty6_ok : TyOk Try.prog 6 ty6 := ⟨_, Try.t6, (Try.t6.zero).getD default, Try.underlying6, by kernel_rfl, rfl, rfl, by first | exact rfl | exact trivial | exact ⟨rfl, rfl⟩, rfl, rfl, rfl⟩
theorem ty7_ok : TyOk Try.prog 7 ty7 := ⟨_, Try.t7, (Try.t7.zero).getD default, Try.underlying7, by kernel_rfl, rfl, rfl, by first | exact rfl | exact trivial | exact ⟨rfl, rfl⟩, rfl, rfl, rfl⟩
theorem ty8_ok : TyOk Try.prog 8 ty8 := ⟨_, Try.t8, (Try.t8.zero).getD default, Try.underlying8, by kernel_rfl, rfl, rfl, by first | exact rfl | exact trivial | exact ⟨rfl, rfl⟩, rfl, rfl, rfl⟩
theorem ty9_ok : TyOk Try.prog 9 ty9 := ⟨_, Try.t9, (Try.t9.zero).getD default, Try.underlying9, by kernel_rfl, rfl, rfl, by first | exact rfl | exact trivial | exact ⟨rfl, rfl⟩, rfl, rfl, rfl⟩
theorem ty10_ok : TyOk Try.prog 10 ty10 := ⟨_, Try.t10, (Try.t10.zero).getD default, Try.underlying10, by kernel_rfl, rfl, rfl, by first | exact rfl | exact trivial | exact ⟨rfl, rfl⟩, rfl, rfl, rfl⟩
theorem ty11_ok : TyOk Try.prog 11 ty11 := ⟨_, Try.t11, (Try.t11.zero).getD default, Try.underlying11, by kernel_rfl, rfl, rfl, by first | exact rfl | exact trivial | exact ⟨rfl, rfl⟩, rfl, rfl, rfl⟩
theorem ty12_ok : TyOk Try.prog 12 ty12 := ⟨_, Try.t12, (Try.t12.zero).getD default, Try.underlying12, by kernel_rfl, rfl, rfl, by first | exact rfl | exact trivial | exact ⟨rfl, rfl⟩, rfl, rfl, rfl⟩
theorem ty13_ok : TyOk Try.prog 13 ty13 := ⟨_, Try.t13, (Try.t13.zero).getD default, Try.underlying13, by kernel_rfl, rfl, rfl, by first | exact rfl | exact trivial | exact ⟨rfl, rfl⟩, rfl, rfl, rfl⟩
theorem ty14_ok : TyOk Try.prog 14 ty14 := ⟨_, Try.t14, (Try.t14.zero).getD default, Try.underlying14, by kernel_rfl, rfl, rfl, by first | exact rfl | exact trivial | exact ⟨rfl, rfl⟩, rfl, rfl, rfl⟩
theorem ty15_ok : TyOk Try.prog 15 ty15 := ⟨_, Try.t15, (Try.t15.zero).getD default, Try.underlying15, by kernel_rfl, rfl, rfl, by first | exact rfl | exact trivial | exact ⟨rfl, rfl⟩, rfl, rfl, rfl⟩
theorem ty16_ok : TyOk Try.prog 16 ty16 := ⟨_, Try.t16, (Try.t16.zero).getD default, Try.underlying16, by kernel_rfl, rfl, rfl, by first | exact rfl | exact trivial | exact ⟨rfl, rfl⟩, rfl, rfl, rfl⟩
theorem ty17_ok : TyOk Try.prog 17 ty17 := ⟨_, Try.t17, (Try.t17.zero).getD default, Try.underlying17, by kernel_rfl, rfl, rfl, by first | exact rfl | exact trivial | exact ⟨rfl, rfl⟩, rfl, rfl, rfl⟩
theorem ty18_ok : TyOk Try.prog 18 ty18 := ⟨_, Try.t18, (Try.t18.zero).getD default, Try.underlying18, by kernel_rfl, rfl, rfl, by first | exact rfl | exact trivial | exact ⟨rfl, rfl⟩, rfl, rfl, rfl⟩
theorem ty19_ok : TyOk Try.prog 19 ty19 := ⟨_, Try.t19, (Try.t19.zero).getD default, Try.underlying19, by kernel_rfl, rfl, rfl, by first | exact rfl | exact trivial | exact ⟨rfl, rfl⟩, rfl, rfl, rfl⟩
theorem ty21_ok : TyOk Try.prog 21 ty21 := ⟨_, Try.t21, (Try.t21.zero).getD default, Try.underlying21, by kernel_rfl, rfl, rfl, by first | exact rfl | exact trivial | exact ⟨rfl, rfl⟩, rfl, rfl, rfl⟩
theorem ty22_ok : TyOk Try.prog 22 ty22 := ⟨_, Try.t22, (Try.t22.zero).getD default, Try.underlying22, by kernel_rfl, rfl, rfl, by first | exact rfl | exact trivial | exact ⟨rfl, rfl⟩, rfl, rfl, rfl⟩
theorem ty23_ok : TyOk Try.prog 23 ty23 := ⟨_, Try.t23, (Try.t23.zero).getD default, Try.underlying23, by kernel_rfl, rfl, rfl, by first | exact rfl | exact trivial | exact ⟨rfl, rfl⟩, rfl, rfl, rfl⟩
theorem ty24_ok : TyOk Try.prog 24 ty24 := ⟨_, Try.t24, (Try.t24.zero).getD default, Try.underlying24, by kernel_rfl, rfl, rfl, by first | exact rfl | exact trivial | exact ⟨rfl, rfl⟩, rfl, rfl, rfl⟩
theorem ty30_ok : TyOk Try.prog 30 ty30 := ⟨_, Try.t30, (Try.t30.zero).getD default, Try.underlying30, by kernel_rfl, rfl, rfl, by first | exact rfl | exact trivial | exact ⟨rfl, rfl⟩, rfl, rfl, rfl⟩
theorem ty36_ok : TyOk Try.prog 36 ty36 := ⟨_, Try.t36, (Try.t36.zero).getD default, Try.underlying36, by kernel_rfl, rfl, rfl, by first | exact rfl | exact trivial | exact ⟨rfl, rfl⟩, rfl, rfl, rfl⟩
theorem ty37_ok : TyOk Try.prog 37 ty37 := ⟨_, Try.t37, (Try.t37.zero).getD default, Try.underlying37, by kernel_rfl, rfl, rfl, by first | exact rfl | exact trivial | exact ⟨rfl, rfl⟩, rfl, rfl, rfl⟩
theorem ty39_ok : TyOk Try.prog 39 ty39 := ⟨_, Try.t39, (Try.t39.zero).getD default, Try.underlying39, by kernel_rfl, rfl, rfl, by first | exact rfl | exact trivial | exact ⟨rfl, rfl⟩, rfl, rfl, rfl⟩
theorem ty40_ok : TyOk Try.prog 40 ty40 := ⟨_, Try.t40, (Try.t40.zero).getD default, Try.underlying40, by kernel_rfl, rfl, rfl, by first | exact rfl | exact trivial | exact ⟨rfl, rfl⟩, rfl, rfl, rfl⟩
theorem ty45_ok : TyOk Try.prog 45 ty45 := ⟨_, Try.t45, (Try.t45.zero).getD default, Try.underlying45, by kernel_rfl, rfl, rfl, by first | exact rfl | exact trivial | exact ⟨rfl, rfl⟩, rfl, rfl, rfl⟩
theorem ty57_ok : TyOk Try.prog 57 ty57 := ⟨_, Try.t57, (Try.t57.zero).getD default, Try.underlying57, by kernel_rfl, rfl, rfl, by first | exact rfl | exact trivial | exact ⟨rfl, rfl⟩, rfl, rfl, rfl⟩
theorem ty66_ok : TyOk Try.prog 66 ty66 := ⟨_, Try.t66, (Try.t66.zero).getD default, Try.underlying66, by kernel_rfl, rfl, rfl, by first | exact rfl | exact trivial | exact ⟨rfl, rfl⟩, rfl, rfl, rfl⟩
theorem ty67_ok : TyOk Try.prog 67 ty67 := ⟨_, Try.t67, (Try.t67.zero).getD default, Try.underlying67, by kernel_rfl, rfl, rfl, by first | exact rfl | exact trivial | exact ⟨rfl, rfl⟩, rfl, rfl, rfl⟩
theorem ty68_ok : TyOk Try.prog 68 ty68 := ⟨_, Try.t68, (Try.t68.zero).getD default, Try.underlying68, by kernel_rfl, rfl, rfl, by first | exact rfl | exact trivial | exact ⟨rfl, rfl⟩, rfl, rfl, rfl⟩
theorem ty69_ok : TyOk Try.prog 69 ty69 := ⟨_, Try.t69, (Try.t69.zero).getD default, Try.underlying69, by kernel_rfl, rfl, rfl, by first | exact rfl | exact trivial | exact ⟨rfl, rfl⟩, rfl, rfl, rfl⟩
theorem ty70_ok : TyOk Try.prog 70 ty70 := ⟨_, Try.t70, (Try.t70.zero).getD default, Try.underlying70, by kernel_rfl, rfl, rfl, by first | exact rfl | exact trivial | exact ⟨rfl, rfl⟩, rfl, rfl, rfl⟩
theorem ty72_ok : TyOk Try.prog 72 ty72 := ⟨_, Try.t72, (Try.t72.zero).getD default, Try.underlying72, by kernel_rfl, rfl, rfl, by first | exact rfl | exact trivial | exact ⟨rfl, rfl⟩, rfl, rfl, rfl⟩
theorem ty73_ok : TyOk Try.prog 73 ty73 := ⟨_, Try.t73, (Try.t73.zero).getD default, Try.underlying73, by kernel_rfl, rfl, rfl, by first | exact rfl | exact trivial | exact ⟨rfl, rfl⟩, rfl, rfl, rfl⟩
theorem ty75_ok : TyOk Try.prog 75 ty75 := ⟨_, Try.t75, (Try.t75.zero).getD default, Try.underlying75, by kernel_rfl, rfl, rfl, by first | exact rfl | exact trivial | exact ⟨rfl, rfl⟩, rfl, rfl, rfl⟩
theorem ty76_ok : TyOk Try.prog 76 ty76 := ⟨_, Try.t76, (Try.t76.zero).getD default, Try.underlying76, by kernel_rfl, rfl, rfl, by first | exact rfl | exact trivial | exact ⟨rfl, rfl⟩, rfl, rfl, rfl⟩
theorem ty77_ok : TyOk Try.prog 77 ty77 := ⟨_, Try.t77, (Try.t77.zero).getD default, Try.underlying77, by kernel_rfl, rfl, rfl, by first | exact rfl | exact trivial | exact ⟨rfl, rfl⟩, rfl, rfl, rfl⟩
def tys : Tys := fun t => (match Nat.blt t 22 with | true => (match Nat.blt t 11 with | true => (match Nat.blt t 6 with | true => (match Nat.blt t 4 with | true => (match Nat.blt t 3 with | true => (match Nat.beq t 2 with | true => some ty2 | false => none) | false => (match Nat.beq t 3 with | true => some ty3 | false => none)) | false => (match Nat.blt t 5 with | true => (match Nat.beq t 4 with | true => some ty4 | false => none) | false => (match Nat.beq t 5 with | true => some ty5 | false => none))) | false => (match Nat.blt t 8 with | true => (match Nat.blt t 7 with | true => (match Nat.beq t 6 with | true => some ty6 | false => none) | false => (match Nat.beq t 7 with | true => some ty7 | false => none)) | false => (match Nat.blt t 9 with | true => (match Nat.beq t 8 with | true => some ty8 | false => none) | false => (match Nat.blt t 10 with | true => (match Nat.beq t 9 with | true => some ty9 | false => none) | false => (match Nat.beq t 10 with | true => some ty10 | false => none))))) | false => (match Nat.blt t 16 with | true => (match Nat.blt t 13 with | true => (match Nat.blt t 12 with | true => (match Nat.beq t 11 with | true => some ty11 | false => none) | false => (match Nat.beq t 12 with | true => some ty12 | false => none)) | false => (match Nat.blt t 14 with | true => (match Nat.beq t 13 with | true => some ty13 | false => none) | false => (match Nat.blt t 15 with | true => (match Nat.beq t 14 with | true => some ty14 | false => none) | false => (match Nat.beq t 15 with | true => some ty15 | false => none)))) | false => (match Nat.blt t 18 with | true => (match Nat.blt t 17 with | true => (match Nat.beq t 16 with | true => some ty16 | false => none) | false => (match Nat.beq t 17 with | true => some ty17 | false => none)) | false => (match Nat.blt t 19 with | true => (match Nat.beq t 18 with | true => some ty18 | false => none) | false => (match Nat.blt t 21 with | true => (match Nat.beq t 19 with | true => some ty19 | false => none) | false => (match Nat.beq t 21 with | true => some ty21 | false => none)))))) | false => (match Nat.blt t 66 with | true => (match Nat.blt t 37 with | true => (match Nat.blt t 24 with | true => (match Nat.blt t 23 with | true => (match Nat.beq t 22 with | true => some ty22 | false => none) | false => (match Nat.beq t 23 with | true => some ty23 | false => none)) | false => (match Nat.blt t 30 with | true => (match Nat.beq t 24 with | true => some ty24 | false => none) | false => (match Nat.blt t 36 with | true => (match Nat.beq t 30 with | true => some ty30 | false => none) | false => (match Nat.beq t 36 with | true => some ty36 | false => none)))) | false => (match Nat.blt t 40 with | true => (match Nat.blt t 39 with | true => (match Nat.beq t 37 with | true => some ty37 | false => none) | false => (match Nat.beq t 39 with | true => some ty39 | false => none)) | false => (match Nat.blt t 45 with | true => (match Nat.beq t 40 with | true => some ty40 | false => none) | false => (match Nat.blt t 57 with | true => (match Nat.beq t 45 with | true => some ty45 | false => none) | false => (match Nat.beq t 57 with | true => some ty57 | false => none))))) | false => (match Nat.blt t 72 with | true => (match Nat.blt t 68 with | true => (match Nat.blt t 67 with | true => (match Nat.beq t 66 with | true => some ty66 | false => none) | false => (match Nat.beq t 67 with | true => some ty67 | false => none)) | false => (match Nat.blt t 69 with | true => (match Nat.beq t 68 with | true => some ty68 | false => none) | false => (match Nat.blt t 70 with | true => (match Nat.beq t 69 with | true => some ty69 | false => none) | false => (match Nat.beq t 70 with | true => some ty70 | false => none)))) | false => (match Nat.blt t 75 with | true => (match Nat.blt t 73 with | true => (match Nat.beq t 72 with | true => some ty72 | false => none) | false => (match Nat.beq t 73 with | true => some ty73 | false => none)) | false => (match Nat.blt t 76 with | true => (match Nat.beq t 75 with | true => some ty75 | false => none) | false => (match Nat.blt t 77 with | true => (match Nat.beq t 76 with | true => some ty76 | false => none) | false => (match Nat.beq t 77 with | true => some ty77 | false => none)))))))
theorem tys_ok : TysOk Try.prog tys := by
  intro t y h
  unfold tys at h
  repeat' split at h
  all_goals first
    | (cases h; done)
    | (injection h with h; subst h; rename_i hb; obtain rfl := Nat.eq_of_beq_eq_true hb; first | with_reducible exact ty2_ok | with_reducible exact ty3_ok | with_reducible exact ty4_ok | with_reducible exact ty5_ok | with_reducible exact ty6_ok | with_reducible exact ty7_ok | with_reducible exact ty8_ok | with_reducible exact ty9_ok | with_reducible exact ty10_ok | with_reducible exact ty11_ok | with_reducible exact ty12_ok | with_reducible exact ty13_ok | with_reducible exact ty14_ok | with_reducible exact ty15_ok | with_reducible exact ty16_ok | with_reducible exact ty17_ok | with_reducible exact ty18_ok | with_reducible exact ty19_ok | with_reducible exact ty21_ok | with_reducible exact ty22_ok | with_reducible exact ty23_ok | with_reducible exact ty24_ok | with_reducible exact ty30_ok | with_reducible exact ty36_ok | with_reducible exact ty37_ok | with_reducible exact ty39_ok | with_reducible exact ty40_ok | with_reducible exact ty45_ok | with_reducible exact ty57_ok | with_reducible exact ty66_ok | with_reducible exact ty67_ok | with_reducible exact ty68_ok | with_reducible exact ty69_ok | with_reducible exact ty70_ok | with_reducible exact ty72_ok | with_reducible exact ty73_ok | with_reducible exact ty75_ok | with_reducible exact ty76_ok | with_reducible exact ty77_ok)
theorem tybz : ty2.bytes = 8 ∧ ty3.bytes = 8 ∧ ty4.bytes = 1 ∧ ty5.bytes = 1 ∧ ty6.bytes = 1 ∧ ty7.bytes = 24 ∧ ty8.bytes = 24 ∧ ty9.bytes = 16 ∧ ty10.bytes = 16 ∧ ty11.bytes = 16 ∧ ty12.bytes = 8 ∧ ty13.bytes = 24 ∧ ty14.bytes = 24 ∧ ty15.bytes = 8 ∧ ty16.bytes = 8 ∧ ty17.bytes = 8 ∧ ty18.bytes = 8 ∧ ty19.bytes = 8 ∧ ty21.bytes = 4 ∧ ty22.bytes = 24 ∧ ty23.bytes = 24 ∧ ty24.bytes = 4 ∧ ty30.bytes = 24 ∧ ty36.bytes = 16 ∧ ty37.bytes = 16 ∧ ty39.bytes = 12 ∧ ty40.bytes = 12 ∧ ty45.bytes = 8 ∧ ty57.bytes = 8 ∧ ty66.bytes = 40 ∧ ty67.bytes = 40 ∧ ty68.bytes = 0 ∧ ty69.bytes = 0 ∧ ty70.bytes = 0 ∧ ty72.bytes = 1 ∧ ty73.bytes = 1 ∧ ty75.bytes = 8 ∧ ty76.bytes = 4 ∧ ty77.bytes = 4 := ⟨rfl, rfl, rfl, rfl, rfl, rfl, rfl, rfl, rfl, rfl, rfl, rfl, rfl, rfl, rfl, rfl, rfl, rfl, rfl, rfl, rfl, rfl, rfl, rfl, rfl, rfl, rfl, rfl, rfl, rfl, rfl, rfl, rfl, rfl, rfl, rfl, rfl, rfl, rfl⟩
theorem tysz : ty2.size = 1 ∧ ty3.size = 1 ∧ ty4.size = 1 ∧ ty5.size = 1 ∧ ty6.size = 1 ∧ ty7.size = 4 ∧ ty8.size = 4 ∧ ty9.size = 1 ∧ ty10.size = 1 ∧ ty11.size = 1 ∧ ty12.size = 1 ∧ ty13.size = 2 ∧ ty14.size = 2 ∧ ty15.size = 1 ∧ ty16.size = 1 ∧ ty17.size = 1 ∧ ty18.size = 1 ∧ ty19.size = 1 ∧ ty21.size = 1 ∧ ty22.size = 1 ∧ ty23.size = 1 ∧ ty24.size = 1 ∧ ty30.size = 1 ∧ ty36.size = 3 ∧ ty37.size = 3 ∧ ty39.size = 3 ∧ ty40.size = 3 ∧ ty45.size = 1 ∧ ty57.size = 1 ∧ ty66.size = 4 ∧ ty67.size = 4 ∧ ty68.size = 0 ∧ ty69.size = 0 ∧ ty70.size = 0 ∧ ty72.size = 1 ∧ ty73.size = 1 ∧ ty75.size = 1 ∧ ty76.size = 1 ∧ ty77.size = 1 := ⟨rfl, rfl, rfl, rfl, rfl, rfl, rfl, rfl, rfl, rfl, rfl, rfl, rfl, rfl, rfl, rfl, rfl, rfl, rfl, rfl, rfl, rfl, rfl, rfl, rfl, rfl, rfl, rfl, rfl, rfl, rfl, rfl, rfl, rfl, rfl, rfl, rfl, rfl, rfl⟩
end Go.Proofs.Ytnmomjaockmdpaa
