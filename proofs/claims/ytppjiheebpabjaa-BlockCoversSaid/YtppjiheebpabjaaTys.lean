/- The types of the program, as the abstract machine has them. -/
import Derived.Test.YtppjiheebpabjaaAbsR
import Derived.Test.YtppjiheebpabjaaProg
import Derived.KernelRfl
namespace Go.Proofs.Ytppjiheebpabjaa
open Go

def ty2 : Ty := ⟨1, 8, [.int .i64 0], .int .i64⟩
def ty3 : Ty := ⟨1, 8, [.int .i64 0], .int .i64⟩
def ty4 : Ty := ⟨1, 1, [.bool false], .bool⟩
def ty5 : Ty := ⟨1, 1, [.int .u8 0], .int .u8⟩
def ty6 : Ty := ⟨1, 1, [.int .u8 0], .int .u8⟩
def ty7 : Ty := ⟨4, 24, [.int .i64 0, .int .i64 0, .bool false, .int .u8 0], .struct [(0, 2), (1, 3), (2, 4), (3, 6)]⟩
def ty8 : Ty := ⟨4, 24, [.int .i64 0, .int .i64 0, .bool false, .int .u8 0], .struct [(0, 2), (1, 3), (2, 4), (3, 6)]⟩
def ty9 : Ty := ⟨1, 16, [.str { data := #[] }], .str⟩
def ty10 : Ty := ⟨1, 16, [.str { data := #[] }], .str⟩
def ty11 : Ty := ⟨1, 16, [.str { data := #[] }], .str⟩
def ty12 : Ty := ⟨1, 8, [.int .u64 0], .int .u64⟩
def ty13 : Ty := ⟨2, 24, [.str { data := #[] }, .int .u64 0], .struct [(0, 9), (1, 12)]⟩
def ty14 : Ty := ⟨2, 24, [.str { data := #[] }, .int .u64 0], .struct [(0, 9), (1, 12)]⟩
def ty15 : Ty := ⟨1, 8, [.nil], .ptr 119⟩
def ty16 : Ty := ⟨1, 8, [.nil], .ptr 122⟩
def ty17 : Ty := ⟨1, 8, [.nil], .ptr 131⟩
def ty18 : Ty := ⟨1, 8, [.nil], .struct [(0, 17)]⟩
def ty19 : Ty := ⟨1, 8, [.nil], .struct [(0, 17)]⟩
def ty21 : Ty := ⟨1, 4, [.int .i32 0], .int .i32⟩
def ty22 : Ty := ⟨1, 24, [.nilsl], .slice 3⟩
def ty24 : Ty := ⟨1, 24, [.nilsl], .slice 26⟩
def ty26 : Ty := ⟨1, 4, [.int .u32 0], .int .u32⟩
def ty29 : Ty := ⟨5, 40, [.int .i64 0, .int .i64 0, .int .i64 0, .int .i64 0, .int .i32 0], .struct [(0, 3), (1, 3), (2, 3), (3, 3), (4, 21)]⟩
def ty30 : Ty := ⟨5, 40, [.int .i64 0, .int .i64 0, .int .i64 0, .int .i64 0, .int .i32 0], .struct [(0, 3), (1, 3), (2, 3), (3, 3), (4, 21)]⟩
def ty33 : Ty := ⟨1, 24, [.nilsl], .slice 39⟩
def ty34 : Ty := ⟨3, 40, [.int .u32 0, .int .i64 0, .nilsl], .struct [(0, 26), (1, 3), (2, 33)]⟩
def ty35 : Ty := ⟨3, 40, [.int .u32 0, .int .i64 0, .nilsl], .struct [(0, 26), (1, 3), (2, 33)]⟩
def ty38 : Ty := ⟨6, 48, [.int .i64 0, .int .i64 0, .int .i64 0, .int .i64 0, .int .u32 0, .int .i64 0], .struct [(0, 3), (1, 3), (2, 3), (3, 3), (4, 26), (5, 3)]⟩
def ty39 : Ty := ⟨6, 48, [.int .i64 0, .int .i64 0, .int .i64 0, .int .i64 0, .int .u32 0, .int .i64 0], .struct [(0, 3), (1, 3), (2, 3), (3, 3), (4, 26), (5, 3)]⟩
def ty52 : Ty := ⟨1, 8, [.int .u64 0], .int .u64⟩
def ty59 : Ty := ⟨5, 12, [.bool false, .bool false, .bool false, .int .i32 0, .int .i32 0], .struct [(0, 4), (1, 4), (2, 4), (3, 21), (4, 21)]⟩
def ty60 : Ty := ⟨5, 12, [.bool false, .bool false, .bool false, .int .i32 0, .int .i32 0], .struct [(0, 4), (1, 4), (2, 4), (3, 21), (4, 21)]⟩
def ty64 : Ty := ⟨1, 8, [.int .i64 0], .int .i64⟩
def ty65 : Ty := ⟨2, 16, [.int .i64 0, .int .i64 0], .struct [(0, 64), (1, 3)]⟩
def ty66 : Ty := ⟨2, 16, [.int .i64 0, .int .i64 0], .struct [(0, 64), (1, 3)]⟩
def ty74 : Ty := ⟨1, 8, [.int .u64 0], .int .u64⟩
def ty79 : Ty := ⟨1, 24, [.nilsl], .slice 97⟩
def ty80 : Ty := ⟨1, 24, [.nilsl], .slice 85⟩
def ty83 : Ty := ⟨1, 24, [.nilsl], .slice 87⟩
def ty84 : Ty := ⟨6, 72, [.str { data := #[] }, .int .i64 0, .nilsl, .int .i64 0, .int .i64 0, .int .i64 0], .struct [(0, 9), (1, 3), (2, 83), (3, 3), (4, 3), (5, 3)]⟩
def ty85 : Ty := ⟨6, 72, [.str { data := #[] }, .int .i64 0, .nilsl, .int .i64 0, .int .i64 0, .int .i64 0], .struct [(0, 9), (1, 3), (2, 83), (3, 3), (4, 3), (5, 3)]⟩
def ty86 : Ty := ⟨3, 32, [.int .i64 0, .int .i64 0, .str { data := #[] }], .struct [(0, 3), (1, 2), (2, 9)]⟩
def ty87 : Ty := ⟨3, 32, [.int .i64 0, .int .i64 0, .str { data := #[] }], .struct [(0, 3), (1, 2), (2, 9)]⟩
def ty91 : Ty := ⟨1, 2, [.int .i16 0], .int .i16⟩
def ty92 : Ty := ⟨1, 24, [.nilsl], .slice 9⟩
def ty96 : Ty := ⟨2, 24, [.str { data := #[] }, .int .u32 0], .struct [(0, 9), (1, 26)]⟩
def ty97 : Ty := ⟨2, 24, [.str { data := #[] }, .int .u32 0], .struct [(0, 9), (1, 26)]⟩
def ty98 : Ty := ⟨1, 24, [.nilsl], .slice 102⟩
def ty101 : Ty := ⟨3, 32, [.int .i64 0, .str { data := #[] }, .bool false], .struct [(0, 3), (1, 9), (2, 4)]⟩
def ty102 : Ty := ⟨3, 32, [.int .i64 0, .str { data := #[] }, .bool false], .struct [(0, 3), (1, 9), (2, 4)]⟩
def ty116 : Ty := ⟨1, 24, [.nilsl], .slice 5⟩
def ty118 : Ty := ⟨4, 40, [.nil, .nil, .nil, .str { data := #[] }], .struct [(0, 17), (1, 17), (2, 17), (3, 9)]⟩
def ty119 : Ty := ⟨4, 40, [.nil, .nil, .nil, .str { data := #[] }], .struct [(0, 17), (1, 17), (2, 17), (3, 9)]⟩
def ty120 : Ty := ⟨0, 0, [], .array 0 16⟩
def ty121 : Ty := ⟨0, 0, [], .struct [(0, 120)]⟩
def ty122 : Ty := ⟨0, 0, [], .struct [(0, 120)]⟩
def ty124 : Ty := ⟨1, 1, [.int .u8 0], .int .u8⟩
def ty125 : Ty := ⟨1, 1, [.int .u8 0], .int .u8⟩
def ty127 : Ty := ⟨1, 8, [.nil], .ptr 5⟩
def ty128 : Ty := ⟨1, 4, [.int .i32 0], .int .i32⟩
def ty129 : Ty := ⟨1, 4, [.int .i32 0], .int .i32⟩
theorem ty2_ok : TyOk Try.prog 2 ty2 := ⟨_, Try.t2, (Try.t2.zero).getD default, Try.underlying2, by kernel_rfl, rfl, rfl, by first | exact rfl | exact trivial | exact ⟨rfl, rfl⟩, rfl, rfl, rfl⟩
theorem ty3_ok : TyOk Try.prog 3 ty3 := ⟨_, Try.t3, (Try.t3.zero).getD default, Try.underlying3, by kernel_rfl, rfl, rfl, by first | exact rfl | exact trivial | exact ⟨rfl, rfl⟩, rfl, rfl, rfl⟩
theorem ty4_ok : TyOk Try.prog 4 ty4 := ⟨_, Try.t4, (Try.t4.zero).getD default, Try.underlying4, by kernel_rfl, rfl, rfl, by first | exact rfl | exact trivial | exact ⟨rfl, rfl⟩, rfl, rfl, rfl⟩
theorem ty5_ok : TyOk Try.prog 5 ty5 := ⟨_, Try.t5, (Try.t5.zero).getD default, Try.underlying5, by kernel_rfl, rfl, rfl, by first | exact rfl | exact trivial | exact ⟨rfl, rfl⟩, rfl, rfl, rfl⟩
theorem ty6_ok : TyOk Try.prog 6 ty6 := ⟨_, Try.t6, (Try.t6.zero).getD default, Try.underlying6, by kernel_rfl, rfl, rfl, by first | exact rfl | exact trivial | exact ⟨rfl, rfl⟩, rfl, rfl, rfl⟩
theorem ty7_ok : TyOk Try.prog 7 ty7 := ⟨_, Try.t7, (Try.t7.zero).getD default, Try.underlying7, by kernel_rfl, rfl, rfl, by first | exact rfl | exact trivial | exact ⟨rfl, rfl⟩, rfl, rfl, rfl⟩
theorem ty8_ok : TyOk Try.prog 8 ty8 := ⟨_, Try.t8, (Try.t8.zero).getD default, Try.underlying8, by kernel_rfl, rfl, rfl, by first | exact rfl | exact trivial | exact ⟨rfl, rfl⟩, rfl, rfl, rfl⟩
theorem ty9_ok : TyOk Try.prog 9 ty9 := ⟨_, Try.t9, (Try.t9.zero).getD default, Try.underlying9, by kernel_rfl, rfl, rfl, by first | exact rfl | exact trivial | exact ⟨rfl, rfl⟩, rfl, rfl, rfl⟩
theorem ty10_ok : TyOk Try.prog 10 ty10 := ⟨_, Try.t10, (Try.t10.zero).getD default, Try.underlying10, by kernel_rfl, rfl, rfl, by first | exact rfl | exact trivial | exact ⟨rfl, rfl⟩, rfl, rfl, rfl⟩
theorem ty11_ok : TyOk Try.prog 11 ty11 := ⟨_, Try.t11, (Try.t11.zero).getD default, Try.underlying11, by kernel_rfl, rfl, rfl, by first | exact rfl | exact trivial | exact ⟨rfl, rfl⟩, rfl, rfl, rfl⟩
theorem ty12_ok : TyOk Try.prog 12 ty12 := ⟨_, Try.t12, (Try.t12.zero).getD default, Try.underlying12, by kernel_rfl, rfl, rfl, by first | exact rfl | exact trivial | exact ⟨rfl, rfl⟩, rfl, rfl, rfl⟩
theorem ty13_ok : TyOk Try.prog 13 ty13 := ⟨_, Try.t13, (Try.t13.zero).getD default, Try.underlying13, by kernel_rfl, rfl, rfl, by first | exact rfl | exact trivial | exact ⟨rfl, rfl⟩, rfl, rfl, rfl⟩
theorem ty14_ok : TyOk Try.prog 14 ty14 := ⟨_, Try.t14, (Try.t14.zero).getD default, Try.underlying14, by kernel_rfl, rfl, rfl, by first | exact rfl | exact trivial | exact ⟨rfl, rfl⟩, rfl, rfl, rfl⟩
theorem ty15_ok : TyOk Try.prog 15 ty15 := ⟨_, Try.t15, (Try.t15.zero).getD default, Try.underlying15, by kernel_rfl, rfl, rfl, by first | exact rfl | exact trivial | exact ⟨rfl, rfl⟩, rfl, rfl, rfl⟩
theorem ty16_ok : TyOk Try.prog 16 ty16 := ⟨_, Try.t16, (Try.t16.zero).getD default, Try.underlying16, by kernel_rfl, rfl, rfl, by first | exact rfl | exact trivial | exact ⟨rfl, rfl⟩, rfl, rfl, rfl⟩
theorem ty17_ok : TyOk Try.prog 17 ty17 := ⟨_, Try.t17, (Try.t17.zero).getD default, Try.underlying17, by kernel_rfl, rfl, rfl, by first | exact rfl | exact trivial | exact ⟨rfl, rfl⟩, rfl, rfl, rfl⟩
theorem ty18_ok : TyOk Try.prog 18 ty18 := ⟨_, Try.t18, (Try.t18.zero).getD default, Try.underlying18, by kernel_rfl, rfl, rfl, by first | exact rfl | exact trivial | exact ⟨rfl, rfl⟩, rfl, rfl, rfl⟩
theorem ty19_ok : TyOk Try.prog 19 ty19 := ⟨_, Try.t19, (Try.t19.zero).getD default, Try.underlying19, by kernel_rfl, rfl, rfl, by first | exact rfl | exact trivial | exact ⟨rfl, rfl⟩, rfl, rfl, rfl⟩
theorem ty21_ok : TyOk Try.prog 21 ty21 := ⟨_, Try.t21, (Try.t21.zero).getD default, Try.underlying21, by kernel_rfl, rfl, rfl, by first | exact rfl | exact trivial | exact ⟨rfl, rfl⟩, rfl, rfl, rfl⟩
theorem ty22_ok : TyOk Try.prog 22 ty22 := ⟨_, Try.t22, (Try.t22.zero).getD default, Try.underlying22, by kernel_rfl, rfl, rfl, by first | exact rfl | exact trivial | exact ⟨rfl, rfl⟩, rfl, rfl, rfl⟩
theorem ty24_ok : TyOk Try.prog 24 ty24 := ⟨_, Try.t24, (Try.t24.zero).getD default, Try.underlying24, by kernel_rfl, rfl, rfl, by first | exact rfl | exact trivial | exact ⟨rfl, rfl⟩, rfl, rfl, rfl⟩
theorem ty26_ok : TyOk Try.prog 26 ty26 := ⟨_, Try.t26, (Try.t26.zero).getD default, Try.underlying26, by kernel_rfl, rfl, rfl, by first | exact rfl | exact trivial | exact ⟨rfl, rfl⟩, rfl, rfl, rfl⟩
theorem ty29_ok : TyOk Try.prog 29 ty29 := ⟨_, Try.t29, (Try.t29.zero).getD default, Try.underlying29, by kernel_rfl, rfl, rfl, by first | exact rfl | exact trivial | exact ⟨rfl, rfl⟩, rfl, rfl, rfl⟩
theorem ty30_ok : TyOk Try.prog 30 ty30 := ⟨_, Try.t30, (Try.t30.zero).getD default, Try.underlying30, by kernel_rfl, rfl, rfl, by first | exact rfl | exact trivial | exact ⟨rfl, rfl⟩, rfl, rfl, rfl⟩
theorem ty33_ok : TyOk Try.prog 33 ty33 := ⟨_, Try.t33, (Try.t33.zero).getD default, Try.underlying33, by kernel_rfl, rfl, rfl, by first | exact rfl | exact trivial | exact ⟨rfl, rfl⟩, rfl, rfl, rfl⟩
theorem ty34_ok : TyOk Try.prog 34 ty34 := ⟨_, Try.t34, (Try.t34.zero).getD default, Try.underlying34, by kernel_rfl, rfl, rfl, by first | exact rfl | exact trivial | exact ⟨rfl, rfl⟩, rfl, rfl, rfl⟩
theorem ty35_ok : TyOk Try.prog 35 ty35 := ⟨_, Try.t35, (Try.t35.zero).getD default, Try.underlying35, by kernel_rfl, rfl, rfl, by first | exact rfl | exact trivial | exact ⟨rfl, rfl⟩, rfl, rfl, rfl⟩
theorem ty38_ok : TyOk Try.prog 38 ty38 := ⟨_, Try.t38, (Try.t38.zero).getD default, Try.underlying38, by kernel_rfl, rfl, rfl, by first | exact rfl | exact trivial | exact ⟨rfl, rfl⟩, rfl, rfl, rfl⟩
theorem ty39_ok : TyOk Try.prog 39 ty39 := ⟨_, Try.t39, (Try.t39.zero).getD default, Try.underlying39, by kernel_rfl, rfl, rfl, by first | exact rfl | exact trivial | exact ⟨rfl, rfl⟩, rfl, rfl, rfl⟩
theorem ty52_ok : TyOk Try.prog 52 ty52 := ⟨_, Try.t52, (Try.t52.zero).getD default, Try.underlying52, by kernel_rfl, rfl, rfl, by first | exact rfl | exact trivial | exact ⟨rfl, rfl⟩, rfl, rfl, rfl⟩
theorem ty59_ok : TyOk Try.prog 59 ty59 := ⟨_, Try.t59, (Try.t59.zero).getD default, Try.underlying59, by kernel_rfl, rfl, rfl, by first | exact rfl | exact trivial | exact ⟨rfl, rfl⟩, rfl, rfl, rfl⟩
theorem ty60_ok : TyOk Try.prog 60 ty60 := ⟨_, Try.t60, (Try.t60.zero).getD default, Try.underlying60, by kernel_rfl, rfl, rfl, by first | exact rfl | exact trivial | exact ⟨rfl, rfl⟩, rfl, rfl, rfl⟩
theorem ty64_ok : TyOk Try.prog 64 ty64 := ⟨_, Try.t64, (Try.t64.zero).getD default, Try.underlying64, by kernel_rfl, rfl, rfl, by first | exact rfl | exact trivial | exact ⟨rfl, rfl⟩, rfl, rfl, rfl⟩
theorem ty65_ok : TyOk Try.prog 65 ty65 := ⟨_, Try.t65, (Try.t65.zero).getD default, Try.underlying65, by kernel_rfl, rfl, rfl, by first | exact rfl | exact trivial | exact ⟨rfl, rfl⟩, rfl, rfl, rfl⟩
theorem ty66_ok : TyOk Try.prog 66 ty66 := ⟨_, Try.t66, (Try.t66.zero).getD default, Try.underlying66, by kernel_rfl, rfl, rfl, by first | exact rfl | exact trivial | exact ⟨rfl, rfl⟩, rfl, rfl, rfl⟩
theorem ty74_ok : TyOk Try.prog 74 ty74 := ⟨_, Try.t74, (Try.t74.zero).getD default, Try.underlying74, by kernel_rfl, rfl, rfl, by first | exact rfl | exact trivial | exact ⟨rfl, rfl⟩, rfl, rfl, rfl⟩
theorem ty79_ok : TyOk Try.prog 79 ty79 := ⟨_, Try.t79, (Try.t79.zero).getD default, Try.underlying79, by kernel_rfl, rfl, rfl, by first | exact rfl | exact trivial | exact ⟨rfl, rfl⟩, rfl, rfl, rfl⟩
theorem ty80_ok : TyOk Try.prog 80 ty80 := ⟨_, Try.t80, (Try.t80.zero).getD default, Try.underlying80, by kernel_rfl, rfl, rfl, by first | exact rfl | exact trivial | exact ⟨rfl, rfl⟩, rfl, rfl, rfl⟩
theorem ty83_ok : TyOk Try.prog 83 ty83 := ⟨_, Try.t83, (Try.t83.zero).getD default, Try.underlying83, by kernel_rfl, rfl, rfl, by first | exact rfl | exact trivial | exact ⟨rfl, rfl⟩, rfl, rfl, rfl⟩
theorem ty84_ok : TyOk Try.prog 84 ty84 := ⟨_, Try.t84, (Try.t84.zero).getD default, Try.underlying84, by kernel_rfl, rfl, rfl, by first | exact rfl | exact trivial | exact ⟨rfl, rfl⟩, rfl, rfl, rfl⟩
theorem ty85_ok : TyOk Try.prog 85 ty85 := ⟨_, Try.t85, (Try.t85.zero).getD default, Try.underlying85, by kernel_rfl, rfl, rfl, by first | exact rfl | exact trivial | exact ⟨rfl, rfl⟩, rfl, rfl, rfl⟩
theorem ty86_ok : TyOk Try.prog 86 ty86 := ⟨_, Try.t86, (Try.t86.zero).getD default, Try.underlying86, by kernel_rfl, rfl, rfl, by first | exact rfl | exact trivial | exact ⟨rfl, rfl⟩, rfl, rfl, rfl⟩
theorem ty87_ok : TyOk Try.prog 87 ty87 := ⟨_, Try.t87, (Try.t87.zero).getD default, Try.underlying87, by kernel_rfl, rfl, rfl, by first | exact rfl | exact trivial | exact ⟨rfl, rfl⟩, rfl, rfl, rfl⟩
theorem ty91_ok : TyOk Try.prog 91 ty91 := ⟨_, Try.t91, (Try.t91.zero).getD default, Try.underlying91, by kernel_rfl, rfl, rfl, by first | exact rfl | exact trivial | exact ⟨rfl, rfl⟩, rfl, rfl, rfl⟩
theorem ty92_ok : TyOk Try.prog 92 ty92 := ⟨_, Try.t92, (Try.t92.zero).getD default, Try.underlying92, by kernel_rfl, rfl, rfl, by first | exact rfl | exact trivial | exact ⟨rfl, rfl⟩, rfl, rfl, rfl⟩
theorem ty96_ok : TyOk Try.prog 96 ty96 := ⟨_, Try.t96, (Try.t96.zero).getD default, Try.underlying96, by kernel_rfl, rfl, rfl, by first | exact rfl | exact trivial | exact ⟨rfl, rfl⟩, rfl, rfl, rfl⟩
theorem ty97_ok : TyOk Try.prog 97 ty97 := ⟨_, Try.t97, (Try.t97.zero).getD default, Try.underlying97, by kernel_rfl, rfl, rfl, by first | exact rfl | exact trivial | exact ⟨rfl, rfl⟩, rfl, rfl, rfl⟩
theorem ty98_ok : TyOk Try.prog 98 ty98 := ⟨_, Try.t98, (Try.t98.zero).getD default, Try.underlying98, by kernel_rfl, rfl, rfl, by first | exact rfl | exact trivial | exact ⟨rfl, rfl⟩, rfl, rfl, rfl⟩
theorem ty101_ok : TyOk Try.prog 101 ty101 := ⟨_, Try.t101, (Try.t101.zero).getD default, Try.underlying101, by kernel_rfl, rfl, rfl, by first | exact rfl | exact trivial | exact ⟨rfl, rfl⟩, rfl, rfl, rfl⟩
theorem ty102_ok : TyOk Try.prog 102 ty102 := ⟨_, Try.t102, (Try.t102.zero).getD default, Try.underlying102, by kernel_rfl, rfl, rfl, by first | exact rfl | exact trivial | exact ⟨rfl, rfl⟩, rfl, rfl, rfl⟩
theorem ty116_ok : TyOk Try.prog 116 ty116 := ⟨_, Try.t116, (Try.t116.zero).getD default, Try.underlying116, by kernel_rfl, rfl, rfl, by first | exact rfl | exact trivial | exact ⟨rfl, rfl⟩, rfl, rfl, rfl⟩
theorem ty118_ok : TyOk Try.prog 118 ty118 := ⟨_, Try.t118, (Try.t118.zero).getD default, Try.underlying118, by kernel_rfl, rfl, rfl, by first | exact rfl | exact trivial | exact ⟨rfl, rfl⟩, rfl, rfl, rfl⟩
theorem ty119_ok : TyOk Try.prog 119 ty119 := ⟨_, Try.t119, (Try.t119.zero).getD default, Try.underlying119, by kernel_rfl, rfl, rfl, by first | exact rfl | exact trivial | exact ⟨rfl, rfl⟩, rfl, rfl, rfl⟩
theorem ty120_ok : TyOk Try.prog 120 ty120 := ⟨_, Try.t120, (Try.t120.zero).getD default, Try.underlying120, by kernel_rfl, rfl, rfl, by first | exact rfl | exact trivial | exact ⟨rfl, rfl⟩, rfl, rfl, rfl⟩
theorem ty121_ok : TyOk Try.prog 121 ty121 := ⟨_, Try.t121, (Try.t121.zero).getD default, Try.underlying121, by kernel_rfl, rfl, rfl, by first | exact rfl | exact trivial | exact ⟨rfl, rfl⟩, rfl, rfl, rfl⟩
theorem ty122_ok : TyOk Try.prog 122 ty122 := ⟨_, Try.t122, (Try.t122.zero).getD default, Try.underlying122, by kernel_rfl, rfl, rfl, by first | exact rfl | exact trivial | exact ⟨rfl, rfl⟩, rfl, rfl, rfl⟩
theorem ty124_ok : TyOk Try.prog 124 ty124 := ⟨_, Try.t124, (Try.t124.zero).getD default, Try.underlying124, by kernel_rfl, rfl, rfl, by first | exact rfl | exact trivial | exact ⟨rfl, rfl⟩, rfl, rfl, rfl⟩
theorem ty125_ok : TyOk Try.prog 125 ty125 := ⟨_, Try.t125, (Try.t125.zero).getD default, Try.underlying125, by kernel_rfl, rfl, rfl, by first | exact rfl | exact trivial | exact ⟨rfl, rfl⟩, rfl, rfl, rfl⟩
theorem ty127_ok : TyOk Try.prog 127 ty127 := ⟨_, Try.t127, (Try.t127.zero).getD default, Try.underlying127, by kernel_rfl, rfl, rfl, by first | exact rfl | exact trivial | exact ⟨rfl, rfl⟩, rfl, rfl, rfl⟩
theorem ty128_ok : TyOk Try.prog 128 ty128 := ⟨_, Try.t128, (Try.t128.zero).getD default, Try.underlying128, by kernel_rfl, rfl, rfl, by first | exact rfl | exact trivial | exact ⟨rfl, rfl⟩, rfl, rfl, rfl⟩
theorem ty129_ok : TyOk Try.prog 129 ty129 := ⟨_, Try.t129, (Try.t129.zero).getD default, Try.underlying129, by kernel_rfl, rfl, rfl, by first | exact rfl | exact trivial | exact ⟨rfl, rfl⟩, rfl, rfl, rfl⟩
def tys : Tys := fun t => (match Nat.blt t 59 with | true => (match Nat.blt t 17 with | true => (match Nat.blt t 9 with | true => (match Nat.blt t 5 with | true => (match Nat.blt t 3 with | true => (match Nat.beq t 2 with | true => some ty2 | false => none) | false => (match Nat.blt t 4 with | true => (match Nat.beq t 3 with | true => some ty3 | false => none) | false => (match Nat.beq t 4 with | true => some ty4 | false => none))) | false => (match Nat.blt t 7 with | true => (match Nat.blt t 6 with | true => (match Nat.beq t 5 with | true => some ty5 | false => none) | false => (match Nat.beq t 6 with | true => some ty6 | false => none)) | false => (match Nat.blt t 8 with | true => (match Nat.beq t 7 with | true => some ty7 | false => none) | false => (match Nat.beq t 8 with | true => some ty8 | false => none)))) | false => (match Nat.blt t 13 with | true => (match Nat.blt t 11 with | true => (match Nat.blt t 10 with | true => (match Nat.beq t 9 with | true => some ty9 | false => none) | false => (match Nat.beq t 10 with | true => some ty10 | false => none)) | false => (match Nat.blt t 12 with | true => (match Nat.beq t 11 with | true => some ty11 | false => none) | false => (match Nat.beq t 12 with | true => some ty12 | false => none))) | false => (match Nat.blt t 15 with | true => (match Nat.blt t 14 with | true => (match Nat.beq t 13 with | true => some ty13 | false => none) | false => (match Nat.beq t 14 with | true => some ty14 | false => none)) | false => (match Nat.blt t 16 with | true => (match Nat.beq t 15 with | true => some ty15 | false => none) | false => (match Nat.beq t 16 with | true => some ty16 | false => none))))) | false => (match Nat.blt t 29 with | true => (match Nat.blt t 21 with | true => (match Nat.blt t 18 with | true => (match Nat.beq t 17 with | true => some ty17 | false => none) | false => (match Nat.blt t 19 with | true => (match Nat.beq t 18 with | true => some ty18 | false => none) | false => (match Nat.beq t 19 with | true => some ty19 | false => none))) | false => (match Nat.blt t 24 with | true => (match Nat.blt t 22 with | true => (match Nat.beq t 21 with | true => some ty21 | false => none) | false => (match Nat.beq t 22 with | true => some ty22 | false => none)) | false => (match Nat.blt t 26 with | true => (match Nat.beq t 24 with | true => some ty24 | false => none) | false => (match Nat.beq t 26 with | true => some ty26 | false => none)))) | false => (match Nat.blt t 35 with | true => (match Nat.blt t 33 with | true => (match Nat.blt t 30 with | true => (match Nat.beq t 29 with | true => some ty29 | false => none) | false => (match Nat.beq t 30 with | true => some ty30 | false => none)) | false => (match Nat.blt t 34 with | true => (match Nat.beq t 33 with | true => some ty33 | false => none) | false => (match Nat.beq t 34 with | true => some ty34 | false => none))) | false => (match Nat.blt t 39 with | true => (match Nat.blt t 38 with | true => (match Nat.beq t 35 with | true => some ty35 | false => none) | false => (match Nat.beq t 38 with | true => some ty38 | false => none)) | false => (match Nat.blt t 52 with | true => (match Nat.beq t 39 with | true => some ty39 | false => none) | false => (match Nat.beq t 52 with | true => some ty52 | false => none)))))) | false => (match Nat.blt t 96 with | true => (match Nat.blt t 80 with | true => (match Nat.blt t 65 with | true => (match Nat.blt t 60 with | true => (match Nat.beq t 59 with | true => some ty59 | false => none) | false => (match Nat.blt t 64 with | true => (match Nat.beq t 60 with | true => some ty60 | false => none) | false => (match Nat.beq t 64 with | true => some ty64 | false => none))) | false => (match Nat.blt t 74 with | true => (match Nat.blt t 66 with | true => (match Nat.beq t 65 with | true => some ty65 | false => none) | false => (match Nat.beq t 66 with | true => some ty66 | false => none)) | false => (match Nat.blt t 79 with | true => (match Nat.beq t 74 with | true => some ty74 | false => none) | false => (match Nat.beq t 79 with | true => some ty79 | false => none)))) | false => (match Nat.blt t 86 with | true => (match Nat.blt t 84 with | true => (match Nat.blt t 83 with | true => (match Nat.beq t 80 with | true => some ty80 | false => none) | false => (match Nat.beq t 83 with | true => some ty83 | false => none)) | false => (match Nat.blt t 85 with | true => (match Nat.beq t 84 with | true => some ty84 | false => none) | false => (match Nat.beq t 85 with | true => some ty85 | false => none))) | false => (match Nat.blt t 91 with | true => (match Nat.blt t 87 with | true => (match Nat.beq t 86 with | true => some ty86 | false => none) | false => (match Nat.beq t 87 with | true => some ty87 | false => none)) | false => (match Nat.blt t 92 with | true => (match Nat.beq t 91 with | true => some ty91 | false => none) | false => (match Nat.beq t 92 with | true => some ty92 | false => none))))) | false => (match Nat.blt t 120 with | true => (match Nat.blt t 102 with | true => (match Nat.blt t 98 with | true => (match Nat.blt t 97 with | true => (match Nat.beq t 96 with | true => some ty96 | false => none) | false => (match Nat.beq t 97 with | true => some ty97 | false => none)) | false => (match Nat.blt t 101 with | true => (match Nat.beq t 98 with | true => some ty98 | false => none) | false => (match Nat.beq t 101 with | true => some ty101 | false => none))) | false => (match Nat.blt t 118 with | true => (match Nat.blt t 116 with | true => (match Nat.beq t 102 with | true => some ty102 | false => none) | false => (match Nat.beq t 116 with | true => some ty116 | false => none)) | false => (match Nat.blt t 119 with | true => (match Nat.beq t 118 with | true => some ty118 | false => none) | false => (match Nat.beq t 119 with | true => some ty119 | false => none)))) | false => (match Nat.blt t 125 with | true => (match Nat.blt t 122 with | true => (match Nat.blt t 121 with | true => (match Nat.beq t 120 with | true => some ty120 | false => none) | false => (match Nat.beq t 121 with | true => some ty121 | false => none)) | false => (match Nat.blt t 124 with | true => (match Nat.beq t 122 with | true => some ty122 | false => none) | false => (match Nat.beq t 124 with | true => some ty124 | false => none))) | false => (match Nat.blt t 128 with | true => (match Nat.blt t 127 with | true => (match Nat.beq t 125 with | true => some ty125 | false => none) | false => (match Nat.beq t 127 with | true => some ty127 | false => none)) | false => (match Nat.blt t 129 with | true => (match Nat.beq t 128 with | true => some ty128 | false => none) | false => (match Nat.beq t 129 with | true => some ty129 | false => none)))))))
theorem tys_ok : TysOk Try.prog tys := by
  intro t y h
  unfold tys at h
  repeat' split at h
  all_goals first
    | (cases h; done)
    | (injection h with h; subst h; rename_i hb; obtain rfl := Nat.eq_of_beq_eq_true hb; first | with_reducible exact ty2_ok | with_reducible exact ty3_ok | with_reducible exact ty4_ok | with_reducible exact ty5_ok | with_reducible exact ty6_ok | with_reducible exact ty7_ok | with_reducible exact ty8_ok | with_reducible exact ty9_ok | with_reducible exact ty10_ok | with_reducible exact ty11_ok | with_reducible exact ty12_ok | with_reducible exact ty13_ok | with_reducible exact ty14_ok | with_reducible exact ty15_ok | with_reducible exact ty16_ok | with_reducible exact ty17_ok | with_reducible exact ty18_ok | with_reducible exact ty19_ok | with_reducible exact ty21_ok | with_reducible exact ty22_ok | with_reducible exact ty24_ok | with_reducible exact ty26_ok | with_reducible exact ty29_ok | with_reducible exact ty30_ok | with_reducible exact ty33_ok | with_reducible exact ty34_ok | with_reducible exact ty35_ok | with_reducible exact ty38_ok | with_reducible exact ty39_ok | with_reducible exact ty52_ok | with_reducible exact ty59_ok | with_reducible exact ty60_ok | with_reducible exact ty64_ok | with_reducible exact ty65_ok | with_reducible exact ty66_ok | with_reducible exact ty74_ok | with_reducible exact ty79_ok | with_reducible exact ty80_ok | with_reducible exact ty83_ok | with_reducible exact ty84_ok | with_reducible exact ty85_ok | with_reducible exact ty86_ok | with_reducible exact ty87_ok | with_reducible exact ty91_ok | with_reducible exact ty92_ok | with_reducible exact ty96_ok | with_reducible exact ty97_ok | with_reducible exact ty98_ok | with_reducible exact ty101_ok | with_reducible exact ty102_ok | with_reducible exact ty116_ok | with_reducible exact ty118_ok | with_reducible exact ty119_ok | with_reducible exact ty120_ok | with_reducible exact ty121_ok | with_reducible exact ty122_ok | with_reducible exact ty124_ok | with_reducible exact ty125_ok | with_reducible exact ty127_ok | with_reducible exact ty128_ok | with_reducible exact ty129_ok)
end Go.Proofs.Ytppjiheebpabjaa
