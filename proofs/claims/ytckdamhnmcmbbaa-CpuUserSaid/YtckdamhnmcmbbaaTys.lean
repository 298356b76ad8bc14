/- The types of the program, as the abstract machine has them. -/
import Derived.Test.YtckdamhnmcmbbaaAbsR
import Derived.Test.YtckdamhnmcmbbaaProg
import Derived.KernelRfl
namespace Go.Proofs.Ytckdamhnmcmbbaa
open Go

def ty2 : Ty := ⟨1, 8, [.int .i64 0], .int .i64⟩
def ty3 : Ty := ⟨1, 8, [.int .i64 0], .int .i64⟩
def ty4 : Ty := ⟨1, 1, [.bool false], .bool⟩
def ty5 : Ty := ⟨1, 1, [.int .u8 0], .int .u8⟩
def ty6 : Ty := ⟨1, 1, [.int .u8 0], .int .u8⟩
def ty7 : Ty := ⟨4, 24, [.int .i64 0, .int .i64 0, .bool false, .int .u8 0], .struct [(0, 2), (1, 3), (2, 4), (3, 6)]⟩
def ty8 : Ty := ⟨4, 24, [.int .i64 0, .int .i64 0, .bool false, .int .u8 0], .struct [(0, 2), (1, 3), (2, 4), (3, 6)]⟩
def ty9 : Ty := ⟨1, 16, [.str { data := #[] }], .str⟩
def ty10 : Ty := ⟨1, 16, [.str { data := #[] }], .str⟩
def ty11 : Ty := ⟨1, 16, [.str { data := #[] }], .str⟩
def ty12 : Ty := ⟨1, 8, [.int .u64 0], .int .u64⟩
def ty13 : Ty := ⟨2, 24, [.str { data := #[] }, .int .u64 0], .struct [(0, 9), (1, 12)]⟩
def ty14 : Ty := ⟨2, 24, [.str { data := #[] }, .int .u64 0], .struct [(0, 9), (1, 12)]⟩
def ty15 : Ty := ⟨1, 8, [.nil], .ptr 118⟩
def ty16 : Ty := ⟨1, 8, [.nil], .ptr 121⟩
def ty17 : Ty := ⟨1, 8, [.nil], .ptr 130⟩
def ty18 : Ty := ⟨1, 8, [.nil], .struct [(0, 17)]⟩
def ty19 : Ty := ⟨1, 8, [.nil], .struct [(0, 17)]⟩
def ty21 : Ty := ⟨1, 4, [.int .i32 0], .int .i32⟩
def ty22 : Ty := ⟨1, 4, [.int .u32 0], .int .u32⟩
def ty26 : Ty := ⟨16, 64, [.int .u32 0, .int .u32 0, .int .u32 0, .int .u32 0, .int .u32 0, .int .u32 0, .int .u32 0, .int .u32 0, .int .u32 0, .int .u32 0, .int .u32 0, .int .u32 0, .int .u32 0, .int .u32 0, .int .u32 0, .int .u32 0], .array 16 22⟩
def ty27 : Ty := ⟨8, 32, [.int .u32 0, .int .u32 0, .int .u32 0, .int .u32 0, .int .u32 0, .int .u32 0, .int .u32 0, .int .u32 0], .array 8 22⟩
def ty28 : Ty := ⟨25, 100, [.int .u32 0, .int .u32 0, .int .u32 0, .int .u32 0, .int .u32 0, .int .u32 0, .int .u32 0, .int .u32 0, .int .u32 0, .int .u32 0, .int .u32 0, .int .u32 0, .int .u32 0, .int .u32 0, .int .u32 0, .int .u32 0, .int .u32 0, .int .u32 0, .int .u32 0, .int .u32 0, .int .u32 0, .int .u32 0, .int .u32 0, .int .u32 0, .int .u32 0], .struct [(0, 26), (16, 22), (17, 27)]⟩
def ty29 : Ty := ⟨25, 100, [.int .u32 0, .int .u32 0, .int .u32 0, .int .u32 0, .int .u32 0, .int .u32 0, .int .u32 0, .int .u32 0, .int .u32 0, .int .u32 0, .int .u32 0, .int .u32 0, .int .u32 0, .int .u32 0, .int .u32 0, .int .u32 0, .int .u32 0, .int .u32 0, .int .u32 0, .int .u32 0, .int .u32 0, .int .u32 0, .int .u32 0, .int .u32 0, .int .u32 0], .struct [(0, 26), (16, 22), (17, 27)]⟩
def ty37 : Ty := ⟨1, 24, [.nilsl], .slice 3⟩
def ty39 : Ty := ⟨5, 40, [.int .i64 0, .int .i64 0, .int .i64 0, .int .i64 0, .int .i32 0], .struct [(0, 3), (1, 3), (2, 3), (3, 3), (4, 21)]⟩
def ty40 : Ty := ⟨5, 40, [.int .i64 0, .int .i64 0, .int .i64 0, .int .i64 0, .int .i32 0], .struct [(0, 3), (1, 3), (2, 3), (3, 3), (4, 21)]⟩
def ty42 : Ty := ⟨1, 24, [.nilsl], .slice 22⟩
def ty45 : Ty := ⟨4, 32, [.int .i64 0, .int .i64 0, .int .i64 0, .int .u32 0], .struct [(0, 3), (1, 3), (2, 3), (3, 22)]⟩
def ty46 : Ty := ⟨4, 32, [.int .i64 0, .int .i64 0, .int .i64 0, .int .u32 0], .struct [(0, 3), (1, 3), (2, 3), (3, 22)]⟩
def ty67 : Ty := ⟨1, 8, [.int .u64 0], .int .u64⟩
def ty82 : Ty := ⟨1, 8, [.int .u64 0], .int .u64⟩
def ty88 : Ty := ⟨5, 12, [.bool false, .bool false, .bool false, .int .i32 0, .int .i32 0], .struct [(0, 4), (1, 4), (2, 4), (3, 21), (4, 21)]⟩
def ty89 : Ty := ⟨5, 12, [.bool false, .bool false, .bool false, .int .i32 0, .int .i32 0], .struct [(0, 4), (1, 4), (2, 4), (3, 21), (4, 21)]⟩
def ty101 : Ty := ⟨3, 16, [.int .u32 0, .int .u32 0, .int .i64 0], .struct [(0, 22), (1, 22), (2, 3)]⟩
def ty102 : Ty := ⟨3, 16, [.int .u32 0, .int .u32 0, .int .i64 0], .struct [(0, 22), (1, 22), (2, 3)]⟩
def ty110 : Ty := ⟨1, 2, [.int .i16 0], .int .i16⟩
def ty117 : Ty := ⟨4, 40, [.nil, .nil, .nil, .str { data := #[] }], .struct [(0, 17), (1, 17), (2, 17), (3, 9)]⟩
def ty118 : Ty := ⟨4, 40, [.nil, .nil, .nil, .str { data := #[] }], .struct [(0, 17), (1, 17), (2, 17), (3, 9)]⟩
def ty119 : Ty := ⟨0, 0, [], .array 0 16⟩
def ty120 : Ty := ⟨0, 0, [], .struct [(0, 119)]⟩
def ty121 : Ty := ⟨0, 0, [], .struct [(0, 119)]⟩
def ty123 : Ty := ⟨1, 1, [.int .u8 0], .int .u8⟩
def ty124 : Ty := ⟨1, 1, [.int .u8 0], .int .u8⟩
def ty126 : Ty := ⟨1, 8, [.nil], .ptr 5⟩
def ty127 : Ty := ⟨1, 4, [.int .i32 0], .int .i32⟩
def ty128 : Ty := ⟨1, 4, [.int .i32 0], .int .i32⟩
theorem ty2_ok : TyOk Try.prog 2 ty2 := ⟨_, Try.t2, (Try.t2.zero).getD default, Try.underlying2, by kernel_rfl, rfl, rfl, by first | exact rfl | exact trivial | exact ⟨rfl, rfl⟩, rfl, rfl, rfl⟩
theorem ty3_ok : TyOk Try.prog 3 ty3 := ⟨_, Try.t3, (Try.t3.zero).getD default, Try.underlying3, by kernel_rfl, rfl, rfl, by first | exact rfl | exact trivial | exact ⟨rfl, rfl⟩, rfl, rfl, rfl⟩
theorem ty4_ok : TyOk Try.prog 4 ty4 := ⟨_, Try.t4, (Try.t4.zero).getD default, Try.underlying4, by kernel_rfl, rfl, rfl, by first | exact rfl | exact trivial | exact ⟨rfl, rfl⟩, rfl, rfl, rfl⟩
theorem ty5_ok : TyOk Try.prog 5 ty5 := ⟨_, Try.t5, (Try.t5.zero).getD default, Try.underlying5, by kernel_rfl, rfl, rfl, by first | exact rfl | exact trivial | exact ⟨rfl, rfl⟩, rfl, rfl, rfl⟩
theorem ty6_ok : TyOk Try.prog 6 ty6 := ⟨_, Try.t6, (Try.t6.zero).getD default, Try.underlying6, by kernel_rfl, rfl, rfl, by first | exact rfl | exact trivial | exact ⟨rfl, rfl⟩, rfl, rfl, rfl⟩
theorem ty7_ok : TyOk Try.prog 7 ty7 := ⟨_, Try.t7, (Try.t7.zero).getD default, Try.underlying7, by kernel_rfl, rfl, rfl, by first | exact rfl | exact trivial | exact ⟨rfl, rfl⟩, rfl, rfl, rfl⟩
theorem ty8_ok : TyOk Try.prog 8 ty8 := ⟨_, Try.t8, (Try.t8.zero).getD default, Try.underlying8, by kernel_rfl, rfl, rfl, by first | exact rfl | exact trivial | exact ⟨rfl, rfl⟩, rfl, rfl, rfl⟩
theorem ty9_ok : TyOk Try.prog 9 ty9 := ⟨_, Try.t9, (Try.t9.zero).getD default, Try.underlying9, by kernel_rfl, rfl, rfl, by first | exact rfl | exact trivial | exact ⟨rfl, rfl⟩, rfl, rfl, rfl⟩
theorem ty10_ok : TyOk Try.prog 10 ty10 := ⟨_, Try.t10, (Try.t10.zero).getD default, Try.underlying10, by kernel_rfl, rfl, rfl, by first | exact rfl | exact trivial | exact ⟨rfl, rfl⟩, rfl, rfl, rfl⟩
theorem ty11_ok : TyOk Try.prog 11 ty11 := ⟨_, Try.t11, (Try.t11.zero).getD default, Try.underlying11, by kernel_rfl, rfl, rfl, by first | exact rfl | exact trivial | exact ⟨rfl, rfl⟩, rfl, rfl, rfl⟩
theorem ty12_ok : TyOk Try.prog 12 ty12 := ⟨_, Try.t12, (Try.t12.zero).getD default, Try.underlying12, by kernel_rfl, rfl, rfl, by first | exact rfl | exact trivial | exact ⟨rfl, rfl⟩, rfl, rfl, rfl⟩
theorem ty13_ok : TyOk Try.prog 13 ty13 := ⟨_, Try.t13, (Try.t13.zero).getD default, Try.underlying13, by kernel_rfl, rfl, rfl, by first | exact rfl | exact trivial | exact ⟨rfl, rfl⟩, rfl, rfl, rfl⟩
theorem ty14_ok : TyOk Try.prog 14 ty14 := ⟨_, Try.t14, (Try.t14.zero).getD default, Try.underlying14, by kernel_rfl, rfl, rfl, by first | exact rfl | exact trivial | exact ⟨rfl, rfl⟩, rfl, rfl, rfl⟩
theorem ty15_ok : TyOk Try.prog 15 ty15 := ⟨_, Try.t15, (Try.t15.zero).getD default, Try.underlying15, by kernel_rfl, rfl, rfl, by first | exact rfl | exact trivial | exact ⟨rfl, rfl⟩, rfl, rfl, rfl⟩
theorem ty16_ok : TyOk Try.prog 16 ty16 := ⟨_, Try.t16, (Try.t16.zero).getD default, Try.underlying16, by kernel_rfl, rfl, rfl, by first | exact rfl | exact trivial | exact ⟨rfl, rfl⟩, rfl, rfl, rfl⟩
theorem ty17_ok : TyOk Try.prog 17 ty17 := ⟨_, Try.t17, (Try.t17.zero).getD default, Try.underlying17, by kernel_rfl, rfl, rfl, by first | exact rfl | exact trivial | exact ⟨rfl, rfl⟩, rfl, rfl, rfl⟩
theorem ty18_ok : TyOk Try.prog 18 ty18 := ⟨_, Try.t18, (Try.t18.zero).getD default, Try.underlying18, by kernel_rfl, rfl, rfl, by first | exact rfl | exact trivial | exact ⟨rfl, rfl⟩, rfl, rfl, rfl⟩
theorem ty19_ok : TyOk Try.prog 19 ty19 := ⟨_, Try.t19, (Try.t19.zero).getD default, Try.underlying19, by kernel_rfl, rfl, rfl, by first | exact rfl | exact trivial | exact ⟨rfl, rfl⟩, rfl, rfl, rfl⟩
theorem ty21_ok : TyOk Try.prog 21 ty21 := ⟨_, Try.t21, (Try.t21.zero).getD default, Try.underlying21, by kernel_rfl, rfl, rfl, by first | exact rfl | exact trivial | exact ⟨rfl, rfl⟩, rfl, rfl, rfl⟩
theorem ty22_ok : TyOk Try.prog 22 ty22 := ⟨_, Try.t22, (Try.t22.zero).getD default, Try.underlying22, by kernel_rfl, rfl, rfl, by first | exact rfl | exact trivial | exact ⟨rfl, rfl⟩, rfl, rfl, rfl⟩
theorem ty26_ok : TyOk Try.prog 26 ty26 := ⟨_, Try.t26, (Try.t26.zero).getD default, Try.underlying26, by kernel_rfl, rfl, rfl, by first | exact rfl | exact trivial | exact ⟨rfl, rfl⟩, rfl, rfl, rfl⟩
theorem ty27_ok : TyOk Try.prog 27 ty27 := ⟨_, Try.t27, (Try.t27.zero).getD default, Try.underlying27, by kernel_rfl, rfl, rfl, by first | exact rfl | exact trivial | exact ⟨rfl, rfl⟩, rfl, rfl, rfl⟩
theorem ty28_ok : TyOk Try.prog 28 ty28 := ⟨_, Try.t28, (Try.t28.zero).getD default, Try.underlying28, by kernel_rfl, rfl, rfl, by first | exact rfl | exact trivial | exact ⟨rfl, rfl⟩, rfl, rfl, rfl⟩
theorem ty29_ok : TyOk Try.prog 29 ty29 := ⟨_, Try.t29, (Try.t29.zero).getD default, Try.underlying29, by kernel_rfl, rfl, rfl, by first | exact rfl | exact trivial | exact ⟨rfl, rfl⟩, rfl, rfl, rfl⟩
theorem ty37_ok : TyOk Try.prog 37 ty37 := ⟨_, Try.t37, (Try.t37.zero).getD default, Try.underlying37, by kernel_rfl, rfl, rfl, by first | exact rfl | exact trivial | exact ⟨rfl, rfl⟩, rfl, rfl, rfl⟩
theorem ty39_ok : TyOk Try.prog 39 ty39 := ⟨_, Try.t39, (Try.t39.zero).getD default, Try.underlying39, by kernel_rfl, rfl, rfl, by first | exact rfl | exact trivial | exact ⟨rfl, rfl⟩, rfl, rfl, rfl⟩
theorem ty40_ok : TyOk Try.prog 40 ty40 := ⟨_, Try.t40, (Try.t40.zero).getD default, Try.underlying40, by kernel_rfl, rfl, rfl, by first | exact rfl | exact trivial | exact ⟨rfl, rfl⟩, rfl, rfl, rfl⟩
theorem ty42_ok : TyOk Try.prog 42 ty42 := ⟨_, Try.t42, (Try.t42.zero).getD default, Try.underlying42, by kernel_rfl, rfl, rfl, by first | exact rfl | exact trivial | exact ⟨rfl, rfl⟩, rfl, rfl, rfl⟩
theorem ty45_ok : TyOk Try.prog 45 ty45 := ⟨_, Try.t45, (Try.t45.zero).getD default, Try.underlying45, by kernel_rfl, rfl, rfl, by first | exact rfl | exact trivial | exact ⟨rfl, rfl⟩, rfl, rfl, rfl⟩
theorem ty46_ok : TyOk Try.prog 46 ty46 := ⟨_, Try.t46, (Try.t46.zero).getD default, Try.underlying46, by kernel_rfl, rfl, rfl, by first | exact rfl | exact trivial | exact ⟨rfl, rfl⟩, rfl, rfl, rfl⟩
theorem ty67_ok : TyOk Try.prog 67 ty67 := ⟨_, Try.t67, (Try.t67.zero).getD default, Try.underlying67, by kernel_rfl, rfl, rfl, by first | exact rfl | exact trivial | exact ⟨rfl, rfl⟩, rfl, rfl, rfl⟩
theorem ty82_ok : TyOk Try.prog 82 ty82 := ⟨_, Try.t82, (Try.t82.zero).getD default, Try.underlying82, by kernel_rfl, rfl, rfl, by first | exact rfl | exact trivial | exact ⟨rfl, rfl⟩, rfl, rfl, rfl⟩
theorem ty88_ok : TyOk Try.prog 88 ty88 := ⟨_, Try.t88, (Try.t88.zero).getD default, Try.underlying88, by kernel_rfl, rfl, rfl, by first | exact rfl | exact trivial | exact ⟨rfl, rfl⟩, rfl, rfl, rfl⟩
theorem ty89_ok : TyOk Try.prog 89 ty89 := ⟨_, Try.t89, (Try.t89.zero).getD default, Try.underlying89, by kernel_rfl, rfl, rfl, by first | exact rfl | exact trivial | exact ⟨rfl, rfl⟩, rfl, rfl, rfl⟩
theorem ty101_ok : TyOk Try.prog 101 ty101 := ⟨_, Try.t101, (Try.t101.zero).getD default, Try.underlying101, by kernel_rfl, rfl, rfl, by first | exact rfl | exact trivial | exact ⟨rfl, rfl⟩, rfl, rfl, rfl⟩
theorem ty102_ok : TyOk Try.prog 102 ty102 := ⟨_, Try.t102, (Try.t102.zero).getD default, Try.underlying102, by kernel_rfl, rfl, rfl, by first | exact rfl | exact trivial | exact ⟨rfl, rfl⟩, rfl, rfl, rfl⟩
theorem ty110_ok : TyOk Try.prog 110 ty110 := ⟨_, Try.t110, (Try.t110.zero).getD default, Try.underlying110, by kernel_rfl, rfl, rfl, by first | exact rfl | exact trivial | exact ⟨rfl, rfl⟩, rfl, rfl, rfl⟩
theorem ty117_ok : TyOk Try.prog 117 ty117 := ⟨_, Try.t117, (Try.t117.zero).getD default, Try.underlying117, by kernel_rfl, rfl, rfl, by first | exact rfl | exact trivial | exact ⟨rfl, rfl⟩, rfl, rfl, rfl⟩
theorem ty118_ok : TyOk Try.prog 118 ty118 := ⟨_, Try.t118, (Try.t118.zero).getD default, Try.underlying118, by kernel_rfl, rfl, rfl, by first | exact rfl | exact trivial | exact ⟨rfl, rfl⟩, rfl, rfl, rfl⟩
theorem ty119_ok : TyOk Try.prog 119 ty119 := ⟨_, Try.t119, (Try.t119.zero).getD default, Try.underlying119, by kernel_rfl, rfl, rfl, by first | exact rfl | exact trivial | exact ⟨rfl, rfl⟩, rfl, rfl, rfl⟩
theorem ty120_ok : TyOk Try.prog 120 ty120 := ⟨_, Try.t120, (Try.t120.zero).getD default, Try.underlying120, by kernel_rfl, rfl, rfl, by first | exact rfl | exact trivial | exact ⟨rfl, rfl⟩, rfl, rfl, rfl⟩
theorem ty121_ok : TyOk Try.prog 121 ty121 := ⟨_, Try.t121, (Try.t121.zero).getD default, Try.underlying121, by kernel_rfl, rfl, rfl, by first | exact rfl | exact trivial | exact ⟨rfl, rfl⟩, rfl, rfl, rfl⟩
theorem ty123_ok : TyOk Try.prog 123 ty123 := ⟨_, Try.t123, (Try.t123.zero).getD default, Try.underlying123, by kernel_rfl, rfl, rfl, by first | exact rfl | exact trivial | exact ⟨rfl, rfl⟩, rfl, rfl, rfl⟩
theorem ty124_ok : TyOk Try.prog 124 ty124 := ⟨_, Try.t124, (Try.t124.zero).getD default, Try.underlying124, by kernel_rfl, rfl, rfl, by first | exact rfl | exact trivial | exact ⟨rfl, rfl⟩, rfl, rfl, rfl⟩
theorem ty126_ok : TyOk Try.prog 126 ty126 := ⟨_, Try.t126, (Try.t126.zero).getD default, Try.underlying126, by kernel_rfl, rfl, rfl, by first | exact rfl | exact trivial | exact ⟨rfl, rfl⟩, rfl, rfl, rfl⟩
theorem ty127_ok : TyOk Try.prog 127 ty127 := ⟨_, Try.t127, (Try.t127.zero).getD default, Try.underlying127, by kernel_rfl, rfl, rfl, by first | exact rfl | exact trivial | exact ⟨rfl, rfl⟩, rfl, rfl, rfl⟩
theorem ty128_ok : TyOk Try.prog 128 ty128 := ⟨_, Try.t128, (Try.t128.zero).getD default, Try.underlying128, by kernel_rfl, rfl, rfl, by first | exact rfl | exact trivial | exact ⟨rfl, rfl⟩, rfl, rfl, rfl⟩
def tys : Tys := fun t => (match Nat.blt t 29 with | true => (match Nat.blt t 13 with | true => (match Nat.blt t 7 with | true => (match Nat.blt t 4 with | true => (match Nat.blt t 3 with | true => (match Nat.beq t 2 with | true => some ty2 | false => none) | false => (match Nat.beq t 3 with | true => some ty3 | false => none)) | false => (match Nat.blt t 5 with | true => (match Nat.beq t 4 with | true => some ty4 | false => none) | false => (match Nat.blt t 6 with | true => (match Nat.beq t 5 with | true => some ty5 | false => none) | false => (match Nat.beq t 6 with | true => some ty6 | false => none)))) | false => (match Nat.blt t 10 with | true => (match Nat.blt t 8 with | true => (match Nat.beq t 7 with | true => some ty7 | false => none) | false => (match Nat.blt t 9 with | true => (match Nat.beq t 8 with | true => some ty8 | false => none) | false => (match Nat.beq t 9 with | true => some ty9 | false => none))) | false => (match Nat.blt t 11 with | true => (match Nat.beq t 10 with | true => some ty10 | false => none) | false => (match Nat.blt t 12 with | true => (match Nat.beq t 11 with | true => some ty11 | false => none) | false => (match Nat.beq t 12 with | true => some ty12 | false => none))))) | false => (match Nat.blt t 19 with | true => (match Nat.blt t 16 with | true => (match Nat.blt t 14 with | true => (match Nat.beq t 13 with | true => some ty13 | false => none) | false => (match Nat.blt t 15 with | true => (match Nat.beq t 14 with | true => some ty14 | false => none) | false => (match Nat.beq t 15 with | true => some ty15 | false => none))) | false => (match Nat.blt t 17 with | true => (match Nat.beq t 16 with | true => some ty16 | false => none) | false => (match Nat.blt t 18 with | true => (match Nat.beq t 17 with | true => some ty17 | false => none) | false => (match Nat.beq t 18 with | true => some ty18 | false => none)))) | false => (match Nat.blt t 26 with | true => (match Nat.blt t 21 with | true => (match Nat.beq t 19 with | true => some ty19 | false => none) | false => (match Nat.blt t 22 with | true => (match Nat.beq t 21 with | true => some ty21 | false => none) | false => (match Nat.beq t 22 with | true => some ty22 | false => none))) | false => (match Nat.blt t 27 with | true => (match Nat.beq t 26 with | true => some ty26 | false => none) | false => (match Nat.blt t 28 with | true => (match Nat.beq t 27 with | true => some ty27 | false => none) | false => (match Nat.beq t 28 with | true => some ty28 | false => none)))))) | false => (match Nat.blt t 102 with | true => (match Nat.blt t 46 with | true => (match Nat.blt t 40 with | true => (match Nat.blt t 37 with | true => (match Nat.beq t 29 with | true => some ty29 | false => none) | false => (match Nat.blt t 39 with | true => (match Nat.beq t 37 with | true => some ty37 | false => none) | false => (match Nat.beq t 39 with | true => some ty39 | false => none))) | false => (match Nat.blt t 42 with | true => (match Nat.beq t 40 with | true => some ty40 | false => none) | false => (match Nat.blt t 45 with | true => (match Nat.beq t 42 with | true => some ty42 | false => none) | false => (match Nat.beq t 45 with | true => some ty45 | false => none)))) | false => (match Nat.blt t 88 with | true => (match Nat.blt t 67 with | true => (match Nat.beq t 46 with | true => some ty46 | false => none) | false => (match Nat.blt t 82 with | true => (match Nat.beq t 67 with | true => some ty67 | false => none) | false => (match Nat.beq t 82 with | true => some ty82 | false => none))) | false => (match Nat.blt t 89 with | true => (match Nat.beq t 88 with | true => some ty88 | false => none) | false => (match Nat.blt t 101 with | true => (match Nat.beq t 89 with | true => some ty89 | false => none) | false => (match Nat.beq t 101 with | true => some ty101 | false => none))))) | false => (match Nat.blt t 121 with | true => (match Nat.blt t 118 with | true => (match Nat.blt t 110 with | true => (match Nat.beq t 102 with | true => some ty102 | false => none) | false => (match Nat.blt t 117 with | true => (match Nat.beq t 110 with | true => some ty110 | false => none) | false => (match Nat.beq t 117 with | true => some ty117 | false => none))) | false => (match Nat.blt t 119 with | true => (match Nat.beq t 118 with | true => some ty118 | false => none) | false => (match Nat.blt t 120 with | true => (match Nat.beq t 119 with | true => some ty119 | false => none) | false => (match Nat.beq t 120 with | true => some ty120 | false => none)))) | false => (match Nat.blt t 126 with | true => (match Nat.blt t 123 with | true => (match Nat.beq t 121 with | true => some ty121 | false => none) | false => (match Nat.blt t 124 with | true => (match Nat.beq t 123 with | true => some ty123 | false => none) | false => (match Nat.beq t 124 with | true => some ty124 | false => none))) | false => (match Nat.blt t 127 with | true => (match Nat.beq t 126 with | true => some ty126 | false => none) | false => (match Nat.blt t 128 with | true => (match Nat.beq t 127 with | true => some ty127 | false => none) | false => (match Nat.beq t 128 with | true => some ty128 | false => none)))))))
theorem tys_ok : TysOk Try.prog tys := by
  intro t y h
  unfold tys at h
  repeat' split at h
  all_goals first
    | (cases h; done)
    | (injection h with h; subst h; rename_i hb; obtain rfl := Nat.eq_of_beq_eq_true hb; first | with_reducible exact ty2_ok | with_reducible exact ty3_ok | with_reducible exact ty4_ok | with_reducible exact ty5_ok | with_reducible exact ty6_ok | with_reducible exact ty7_ok | with_reducible exact ty8_ok | with_reducible exact ty9_ok | with_reducible exact ty10_ok | with_reducible exact ty11_ok | with_reducible exact ty12_ok | with_reducible exact ty13_ok | with_reducible exact ty14_ok | with_reducible exact ty15_ok | with_reducible exact ty16_ok | with_reducible exact ty17_ok | with_reducible exact ty18_ok | with_reducible exact ty19_ok | with_reducible exact ty21_ok | with_reducible exact ty22_ok | with_reducible exact ty26_ok | with_reducible exact ty27_ok | with_reducible exact ty28_ok | with_reducible exact ty29_ok | with_reducible exact ty37_ok | with_reducible exact ty39_ok | with_reducible exact ty40_ok | with_reducible exact ty42_ok | with_reducible exact ty45_ok | with_reducible exact ty46_ok | with_reducible exact ty67_ok | with_reducible exact ty82_ok | with_reducible exact ty88_ok | with_reducible exact ty89_ok | with_reducible exact ty101_ok | with_reducible exact ty102_ok | with_reducible exact ty110_ok | with_reducible exact ty117_ok | with_reducible exact ty118_ok | with_reducible exact ty119_ok | with_reducible exact ty120_ok | with_reducible exact ty121_ok | with_reducible exact ty123_ok | with_reducible exact ty124_ok | with_reducible exact ty126_ok | with_reducible exact ty127_ok | with_reducible exact ty128_ok)
end Go.Proofs.Ytckdamhnmcmbbaa
