/- The functions of the program and its comparable types, for runs. -/
import Derived.Test.YtcaddlighhiepaaRunE
import Derived.Test.YtcaddlighhiepaaTys
import Derived.Test.YtcaddlighhiepaaAbsS
namespace Go.Proofs.Ytcaddlighhiepaa
open Go
set_option maxRecDepth 100000

noncomputable def fd2 : Fd := ⟨1, Try.f2.results.toList, Try.f2.body.getD .skip⟩
noncomputable def fd3 : Fd := ⟨110, Try.f3.results.toList, Try.f3.body.getD .skip⟩
noncomputable def fd4 : Fd := ⟨78, Try.f4.results.toList, Try.f4.body.getD .skip⟩
noncomputable def fd5 : Fd := ⟨77, Try.f5.results.toList, Try.f5.body.getD .skip⟩
noncomputable def fd6 : Fd := ⟨24, Try.f6.results.toList, Try.f6.body.getD .skip⟩
noncomputable def fd7 : Fd := ⟨57, Try.f7.results.toList, Try.f7.body.getD .skip⟩
noncomputable def fd8 : Fd := ⟨26, Try.f8.results.toList, Try.f8.body.getD .skip⟩
noncomputable def fd9 : Fd := ⟨26, Try.f9.results.toList, Try.f9.body.getD .skip⟩
noncomputable def fd10 : Fd := ⟨95, Try.f10.results.toList, Try.f10.body.getD .skip⟩
noncomputable def fd11 : Fd := ⟨15, Try.f11.results.toList, Try.f11.body.getD .skip⟩
noncomputable def fd12 : Fd := ⟨29, Try.f12.results.toList, Try.f12.body.getD .skip⟩
noncomputable def fd13 : Fd := ⟨46, Try.f13.results.toList, Try.f13.body.getD .skip⟩
noncomputable def fd14 : Fd := ⟨45, Try.f14.results.toList, Try.f14.body.getD .skip⟩
noncomputable def fd15 : Fd := ⟨27, Try.f15.results.toList, Try.f15.body.getD .skip⟩
noncomputable def fd16 : Fd := ⟨28, Try.f16.results.toList, Try.f16.body.getD .skip⟩
noncomputable def fd17 : Fd := ⟨42, Try.f17.results.toList, Try.f17.body.getD .skip⟩
noncomputable def fd18 : Fd := ⟨23, Try.f18.results.toList, Try.f18.body.getD .skip⟩
noncomputable def fd19 : Fd := ⟨28, Try.f19.results.toList, Try.f19.body.getD .skip⟩
noncomputable def fd20 : Fd := ⟨49, Try.f20.results.toList, Try.f20.body.getD .skip⟩
noncomputable def fd21 : Fd := ⟨54, Try.f21.results.toList, Try.f21.body.getD .skip⟩
noncomputable def fd22 : Fd := ⟨20, Try.f22.results.toList, Try.f22.body.getD .skip⟩
noncomputable def fd23 : Fd := ⟨125, Try.f23.results.toList, Try.f23.body.getD .skip⟩
noncomputable def fd24 : Fd := ⟨12, Try.f24.results.toList, Try.f24.body.getD .skip⟩
noncomputable def fd25 : Fd := ⟨30, Try.f25.results.toList, Try.f25.body.getD .skip⟩
noncomputable def fd26 : Fd := ⟨142, Try.f26.results.toList, Try.f26.body.getD .skip⟩
noncomputable def fd27 : Fd := ⟨15, Try.f27.results.toList, Try.f27.body.getD .skip⟩
noncomputable def fd28 : Fd := ⟨26, Try.f28.results.toList, Try.f28.body.getD .skip⟩
noncomputable def fd29 : Fd := ⟨46, Try.f29.results.toList, Try.f29.body.getD .skip⟩
noncomputable def fd30 : Fd := ⟨9, Try.f30.results.toList, Try.f30.body.getD .skip⟩
noncomputable def fd31 : Fd := ⟨10, Try.f31.results.toList, Try.f31.body.getD .skip⟩
noncomputable def fd32 : Fd := ⟨19, Try.f32.results.toList, Try.f32.body.getD .skip⟩
noncomputable def fd33 : Fd := ⟨19, Try.f33.results.toList, Try.f33.body.getD .skip⟩
noncomputable def fd34 : Fd := ⟨60, Try.f34.results.toList, Try.f34.body.getD .skip⟩
noncomputable def fd35 : Fd := ⟨8, Try.f35.results.toList, Try.f35.body.getD .skip⟩
noncomputable def fd36 : Fd := ⟨87, Try.f36.results.toList, Try.f36.body.getD .skip⟩
noncomputable def fd37 : Fd := ⟨32, Try.f37.results.toList, Try.f37.body.getD .skip⟩
noncomputable def fd38 : Fd := ⟨106, Try.f38.results.toList, Try.f38.body.getD .skip⟩
noncomputable def fd39 : Fd := ⟨26, Try.f39.results.toList, Try.f39.body.getD .skip⟩
noncomputable def fd40 : Fd := ⟨7, Try.f40.results.toList, Try.f40.body.getD .skip⟩
noncomputable def fd41 : Fd := ⟨32, Try.f41.results.toList, Try.f41.body.getD .skip⟩
noncomputable def fd42 : Fd := ⟨7, Try.f42.results.toList, Try.f42.body.getD .skip⟩
noncomputable def fd43 : Fd := ⟨44, Try.f43.results.toList, Try.f43.body.getD .skip⟩
noncomputable def fd44 : Fd := ⟨69, Try.f44.results.toList, Try.f44.body.getD .skip⟩
noncomputable def fd45 : Fd := ⟨24, Try.f45.results.toList, Try.f45.body.getD .skip⟩
noncomputable def fd46 : Fd := ⟨23, Try.f46.results.toList, Try.f46.body.getD .skip⟩
noncomputable def fd47 : Fd := ⟨175, Try.f47.results.toList, Try.f47.body.getD .skip⟩
noncomputable def fd48 : Fd := ⟨72, Try.f48.results.toList, Try.f48.body.getD .skip⟩
noncomputable def fd49 : Fd := ⟨24, Try.f49.results.toList, Try.f49.body.getD .skip⟩
noncomputable def fd50 : Fd := ⟨75, Try.f50.results.toList, Try.f50.body.getD .skip⟩
noncomputable def fd51 : Fd := ⟨2, Try.f51.results.toList, Try.f51.body.getD .skip⟩
noncomputable def fd52 : Fd := ⟨15, Try.f52.results.toList, Try.f52.body.getD .skip⟩
noncomputable def fd53 : Fd := ⟨86, Try.f53.results.toList, Try.f53.body.getD .skip⟩
noncomputable def fd54 : Fd := ⟨26, Try.f54.results.toList, Try.f54.body.getD .skip⟩
noncomputable def fd55 : Fd := ⟨8, Try.f55.results.toList, Try.f55.body.getD .skip⟩
noncomputable def fd56 : Fd := ⟨8, Try.f56.results.toList, Try.f56.body.getD .skip⟩
noncomputable def fd57 : Fd := ⟨47, Try.f57.results.toList, Try.f57.body.getD .skip⟩
noncomputable def fd58 : Fd := ⟨9, Try.f58.results.toList, Try.f58.body.getD .skip⟩
noncomputable def fd59 : Fd := ⟨16, Try.f59.results.toList, Try.f59.body.getD .skip⟩
noncomputable def fd60 : Fd := ⟨69, Try.f60.results.toList, Try.f60.body.getD .skip⟩
noncomputable def fd61 : Fd := ⟨9, Try.f61.results.toList, Try.f61.body.getD .skip⟩
noncomputable def fd62 : Fd := ⟨154, Try.f62.results.toList, Try.f62.body.getD .skip⟩
noncomputable def fd63 : Fd := ⟨37, Try.f63.results.toList, Try.f63.body.getD .skip⟩
noncomputable def fd64 : Fd := ⟨41, Try.f64.results.toList, Try.f64.body.getD .skip⟩
noncomputable def fd65 : Fd := ⟨28, Try.f65.results.toList, Try.f65.body.getD .skip⟩
noncomputable def fd66 : Fd := ⟨51, Try.f66.results.toList, Try.f66.body.getD .skip⟩
noncomputable def fd67 : Fd := ⟨26, Try.f67.results.toList, Try.f67.body.getD .skip⟩
noncomputable def fd68 : Fd := ⟨37, Try.f68.results.toList, Try.f68.body.getD .skip⟩
noncomputable def fd69 : Fd := ⟨26, Try.f69.results.toList, Try.f69.body.getD .skip⟩
noncomputable def fd70 : Fd := ⟨96, Try.f70.results.toList, Try.f70.body.getD .skip⟩
noncomputable def fd71 : Fd := ⟨21, Try.f71.results.toList, Try.f71.body.getD .skip⟩
noncomputable def fd72 : Fd := ⟨40, Try.f72.results.toList, Try.f72.body.getD .skip⟩
noncomputable def fd73 : Fd := ⟨9, Try.f73.results.toList, Try.f73.body.getD .skip⟩
noncomputable def fd74 : Fd := ⟨17, Try.f74.results.toList, Try.f74.body.getD .skip⟩
noncomputable def fd75 : Fd := ⟨68, Try.f75.results.toList, Try.f75.body.getD .skip⟩
noncomputable def fd76 : Fd := ⟨14, Try.f76.results.toList, Try.f76.body.getD .skip⟩
noncomputable def fd77 : Fd := ⟨13, Try.f77.results.toList, Try.f77.body.getD .skip⟩
noncomputable def fd78 : Fd := ⟨40, Try.f78.results.toList, Try.f78.body.getD .skip⟩
noncomputable def fd79 : Fd := ⟨11, Try.f79.results.toList, Try.f79.body.getD .skip⟩
noncomputable def fd80 : Fd := ⟨9, Try.f80.results.toList, Try.f80.body.getD .skip⟩
noncomputable def fd81 : Fd := ⟨102, Try.f81.results.toList, Try.f81.body.getD .skip⟩
noncomputable def fd82 : Fd := ⟨21, Try.f82.results.toList, Try.f82.body.getD .skip⟩
noncomputable def fd83 : Fd := ⟨15, Try.f83.results.toList, Try.f83.body.getD .skip⟩
noncomputable def fd84 : Fd := ⟨31, Try.f84.results.toList, Try.f84.body.getD .skip⟩
noncomputable def fd85 : Fd := ⟨30, Try.f85.results.toList, Try.f85.body.getD .skip⟩
noncomputable def fd86 : Fd := ⟨24, Try.f86.results.toList, Try.f86.body.getD .skip⟩
noncomputable def fd87 : Fd := ⟨21, Try.f87.results.toList, Try.f87.body.getD .skip⟩
noncomputable def fd88 : Fd := ⟨21, Try.f88.results.toList, Try.f88.body.getD .skip⟩
noncomputable def fd89 : Fd := ⟨25, Try.f89.results.toList, Try.f89.body.getD .skip⟩
noncomputable def fd90 : Fd := ⟨4, Try.f90.results.toList, Try.f90.body.getD .skip⟩
noncomputable def fd91 : Fd := ⟨30, Try.f91.results.toList, Try.f91.body.getD .skip⟩
noncomputable def fd92 : Fd := ⟨4, Try.f92.results.toList, Try.f92.body.getD .skip⟩
noncomputable def fd93 : Fd := ⟨15, Try.f93.results.toList, Try.f93.body.getD .skip⟩
noncomputable def fd94 : Fd := ⟨9, Try.f94.results.toList, Try.f94.body.getD .skip⟩
def FdOk (i : Nat) (d : Fd) : Prop := ∃ fn, Try.prog.funcs[i]? = some fn ∧ (fn.name == "runtime.NumGoroutine") = false ∧ fn.body = some d.code ∧ fn.ntmps = d.N ∧ fn.results.toList = d.res
theorem fd2_ok : FdOk 2 fd2 := ⟨Try.f2, Try.func2, by kernel_rfl, rfl, rfl, rfl⟩
theorem fd3_ok : FdOk 3 fd3 := ⟨Try.f3, Try.func3, by kernel_rfl, rfl, rfl, rfl⟩
theorem fd4_ok : FdOk 4 fd4 := ⟨Try.f4, Try.func4, by kernel_rfl, rfl, rfl, rfl⟩
theorem fd5_ok : FdOk 5 fd5 := ⟨Try.f5, Try.func5, by kernel_rfl, rfl, rfl, rfl⟩
theorem fd6_ok : FdOk 6 fd6 := ⟨Try.f6, Try.func6, by kernel_rfl, rfl, rfl, rfl⟩
theorem fd7_ok : FdOk 7 fd7 := ⟨Try.f7, Try.func7, by kernel_rfl, rfl, rfl, rfl⟩
theorem fd8_ok : FdOk 8 fd8 := ⟨Try.f8, Try.func8, by kernel_rfl, rfl, rfl, rfl⟩
theorem fd9_ok : FdOk 9 fd9 := ⟨Try.f9, Try.func9, by kernel_rfl, rfl, rfl, rfl⟩
theorem fd10_ok : FdOk 10 fd10 := ⟨Try.f10, Try.func10, by kernel_rfl, rfl, rfl, rfl⟩
theorem fd11_ok : FdOk 11 fd11 := ⟨Try.f11, Try.func11, by kernel_rfl, rfl, rfl, rfl⟩
theorem fd12_ok : FdOk 12 fd12 := ⟨Try.f12, Try.func12, by kernel_rfl, rfl, rfl, rfl⟩
theorem fd13_ok : FdOk 13 fd13 := ⟨Try.f13, Try.func13, by kernel_rfl, rfl, rfl, rfl⟩
theorem fd14_ok : FdOk 14 fd14 := ⟨Try.f14, Try.func14, by kernel_rfl, rfl, rfl, rfl⟩
theorem fd15_ok : FdOk 15 fd15 := ⟨Try.f15, Try.func15, by kernel_rfl, rfl, rfl, rfl⟩
theorem fd16_ok : FdOk 16 fd16 := ⟨Try.f16, Try.func16, by kernel_rfl, rfl, rfl, rfl⟩
theorem fd17_ok : FdOk 17 fd17 := ⟨Try.f17, Try.func17, by kernel_rfl, rfl, rfl, rfl⟩
theorem fd18_ok : FdOk 18 fd18 := ⟨Try.f18, Try.func18, by kernel_rfl, rfl, rfl, rfl⟩
theorem fd19_ok : FdOk 19 fd19 := ⟨Try.f19, Try.func19, by kernel_rfl, rfl, rfl, rfl⟩
theorem fd20_ok : FdOk 20 fd20 := ⟨Try.f20, Try.func20, by kernel_rfl, rfl, rfl, rfl⟩
theorem fd21_ok : FdOk 21 fd21 := ⟨Try.f21, Try.func21, by kernel_rfl, rfl, rfl, rfl⟩
theorem fd22_ok : FdOk 22 fd22 := ⟨Try.f22, Try.func22, by kernel_rfl, rfl, rfl, rfl⟩
theorem fd23_ok : FdOk 23 fd23 := ⟨Try.f23, Try.func23, by kernel_rfl, rfl, rfl, rfl⟩
theorem fd24_ok : FdOk 24 fd24 := ⟨Try.f24, Try.func24, by kernel_rfl, rfl, rfl, rfl⟩
theorem fd25_ok : FdOk 25 fd25 := ⟨Try.f25, Try.func25, by kernel_rfl, rfl, rfl, rfl⟩
theorem fd26_ok : FdOk 26 fd26 := ⟨Try.f26, Try.func26, by kernel_rfl, rfl, rfl, rfl⟩
theorem fd27_ok : FdOk 27 fd27 := ⟨Try.f27, Try.func27, by kernel_rfl, rfl, rfl, rfl⟩
theorem fd28_ok : FdOk 28 fd28 := ⟨Try.f28, Try.func28, by kernel_rfl, rfl, rfl, rfl⟩
theorem fd29_ok : FdOk 29 fd29 := ⟨Try.f29, Try.func29, by kernel_rfl, rfl, rfl, rfl⟩
theorem fd30_ok : FdOk 30 fd30 := ⟨Try.f30, Try.func30, by kernel_rfl, rfl, rfl, rfl⟩
theorem fd31_ok : FdOk 31 fd31 := ⟨Try.f31, Try.func31, by kernel_rfl, rfl, rfl, rfl⟩
theorem fd32_ok : FdOk 32 fd32 := ⟨Try.f32, Try.func32, by kernel_rfl, rfl, rfl, rfl⟩
theorem fd33_ok : FdOk 33 fd33 := ⟨Try.f33, Try.func33, by kernel_rfl, rfl, rfl, rfl⟩
theorem fd34_ok : FdOk 34 fd34 := ⟨Try.f34, Try.func34, by kernel_rfl, rfl, rfl, rfl⟩
theorem fd35_ok : FdOk 35 fd35 := ⟨Try.f35, Try.func35, by kernel_rfl, rfl, rfl, rfl⟩
theorem fd36_ok : FdOk 36 fd36 := ⟨Try.f36, Try.func36, by kernel_rfl, rfl, rfl, rfl⟩
theorem fd37_ok : FdOk 37 fd37 := ⟨Try.f37, Try.func37, by kernel_rfl, rfl, rfl, rfl⟩
theorem fd38_ok : FdOk 38 fd38 := ⟨Try.f38, Try.func38, by kernel_rfl, rfl, rfl, rfl⟩
theorem fd39_ok : FdOk 39 fd39 := ⟨Try.f39, Try.func39, by kernel_rfl, rfl, rfl, rfl⟩
theorem fd40_ok : FdOk 40 fd40 := ⟨Try.f40, Try.func40, by kernel_rfl, rfl, rfl, rfl⟩
theorem fd41_ok : FdOk 41 fd41 := ⟨Try.f41, Try.func41, by kernel_rfl, rfl, rfl, rfl⟩
theorem fd42_ok : FdOk 42 fd42 := ⟨Try.f42, Try.func42, by kernel_rfl, rfl, rfl, rfl⟩
theorem fd43_ok : FdOk 43 fd43 := ⟨Try.f43, Try.func43, by kernel_rfl, rfl, rfl, rfl⟩
theorem fd44_ok : FdOk 44 fd44 := ⟨Try.f44, Try.func44, by kernel_rfl, rfl, rfl, rfl⟩
theorem fd45_ok : FdOk 45 fd45 := ⟨Try.f45, Try.func45, by kernel_rfl, rfl, rfl, rfl⟩
theorem fd46_ok : FdOk 46 fd46 := ⟨Try.f46, Try.func46, by kernel_rfl, rfl, rfl, rfl⟩
theorem fd47_ok : FdOk 47 fd47 := ⟨Try.f47, Try.func47, by kernel_rfl, rfl, rfl, rfl⟩
theorem fd48_ok : FdOk 48 fd48 := ⟨Try.f48, Try.func48, by kernel_rfl, rfl, rfl, rfl⟩
theorem fd49_ok : FdOk 49 fd49 := ⟨Try.f49, Try.func49, by kernel_rfl, rfl, rfl, rfl⟩
theorem fd50_ok : FdOk 50 fd50 := ⟨Try.f50, Try.func50, by kernel_rfl, rfl, rfl, rfl⟩
theorem fd51_ok : FdOk 51 fd51 := ⟨Try.f51, Try.func51, by kernel_rfl, rfl, rfl, rfl⟩
theorem fd52_ok : FdOk 52 fd52 := ⟨Try.f52, Try.func52, by kernel_rfl, rfl, rfl, rfl⟩
theorem fd53_ok : FdOk 53 fd53 := ⟨Try.f53, Try.func53, by kernel_rfl, rfl, rfl, rfl⟩
theorem fd54_ok : FdOk 54 fd54 := ⟨Try.f54, Try.func54, by kernel_rfl, rfl, rfl, rfl⟩
theorem fd55_ok : FdOk 55 fd55 := ⟨Try.f55, Try.func55, by kernel_rfl, rfl, rfl, rfl⟩
theorem fd56_ok : FdOk 56 fd56 := ⟨Try.f56, Try.func56, by kernel_rfl, rfl, rfl, rfl⟩
theorem fd57_ok : FdOk 57 fd57 := ⟨Try.f57, Try.func57, by kernel_rfl, rfl, rfl, rfl⟩
theorem fd58_ok : FdOk 58 fd58 := ⟨Try.f58, Try.func58, by kernel_rfl, rfl, rfl, rfl⟩
theorem fd59_ok : FdOk 59 fd59 := ⟨Try.f59, Try.func59, by kernel_rfl, rfl, rfl, rfl⟩
theorem fd60_ok : FdOk 60 fd60 := ⟨Try.f60, Try.func60, by kernel_rfl, rfl, rfl, rfl⟩
theorem fd61_ok : FdOk 61 fd61 := ⟨Try.f61, Try.func61, by kernel_rfl, rfl, rfl, rfl⟩
theorem fd62_ok : FdOk 62 fd62 := ⟨Try.f62, Try.func62, by kernel_rfl, rfl, rfl, rfl⟩
theorem fd63_ok : FdOk 63 fd63 := ⟨Try.f63, Try.func63, by kernel_rfl, rfl, rfl, rfl⟩
theorem fd64_ok : FdOk 64 fd64 := ⟨Try.f64, Try.func64, by kernel_rfl, rfl, rfl, rfl⟩
theorem fd65_ok : FdOk 65 fd65 := ⟨Try.f65, Try.func65, by kernel_rfl, rfl, rfl, rfl⟩
theorem fd66_ok : FdOk 66 fd66 := ⟨Try.f66, Try.func66, by kernel_rfl, rfl, rfl, rfl⟩
theorem fd67_ok : FdOk 67 fd67 := ⟨Try.f67, Try.func67, by kernel_rfl, rfl, rfl, rfl⟩
theorem fd68_ok : FdOk 68 fd68 := ⟨Try.f68, Try.func68, by kernel_rfl, rfl, rfl, rfl⟩
theorem fd69_ok : FdOk 69 fd69 := ⟨Try.f69, Try.func69, by kernel_rfl, rfl, rfl, rfl⟩
theorem fd70_ok : FdOk 70 fd70 := ⟨Try.f70, Try.func70, by kernel_rfl, rfl, rfl, rfl⟩
theorem fd71_ok : FdOk 71 fd71 := ⟨Try.f71, Try.func71, by kernel_rfl, rfl, rfl, rfl⟩
theorem fd72_ok : FdOk 72 fd72 := ⟨Try.f72, Try.func72, by kernel_rfl, rfl, rfl, rfl⟩
theorem fd73_ok : FdOk 73 fd73 := ⟨Try.f73, Try.func73, by kernel_rfl, rfl, rfl, rfl⟩
theorem fd74_ok : FdOk 74 fd74 := ⟨Try.f74, Try.func74, by kernel_rfl, rfl, rfl, rfl⟩
theorem fd75_ok : FdOk 75 fd75 := ⟨Try.f75, Try.func75, by kernel_rfl, rfl, rfl, rfl⟩
theorem fd76_ok : FdOk 76 fd76 := ⟨Try.f76, Try.func76, by kernel_rfl, rfl, rfl, rfl⟩
theorem fd77_ok : FdOk 77 fd77 := ⟨Try.f77, Try.func77, by kernel_rfl, rfl, rfl, rfl⟩
theorem fd78_ok : FdOk 78 fd78 := ⟨Try.f78, Try.func78, by kernel_rfl, rfl, rfl, rfl⟩
theorem fd79_ok : FdOk 79 fd79 := ⟨Try.f79, Try.func79, by kernel_rfl, rfl, rfl, rfl⟩
theorem fd80_ok : FdOk 80 fd80 := ⟨Try.f80, Try.func80, by kernel_rfl, rfl, rfl, rfl⟩
theorem fd81_ok : FdOk 81 fd81 := ⟨Try.f81, Try.func81, by kernel_rfl, rfl, rfl, rfl⟩
theorem fd82_ok : FdOk 82 fd82 := ⟨Try.f82, Try.func82, by kernel_rfl, rfl, rfl, rfl⟩
theorem fd83_ok : FdOk 83 fd83 := ⟨Try.f83, Try.func83, by kernel_rfl, rfl, rfl, rfl⟩
theorem fd84_ok : FdOk 84 fd84 := ⟨Try.f84, Try.func84, by kernel_rfl, rfl, rfl, rfl⟩
theorem fd85_ok : FdOk 85 fd85 := ⟨Try.f85, Try.func85, by kernel_rfl, rfl, rfl, rfl⟩
theorem fd86_ok : FdOk 86 fd86 := ⟨Try.f86, Try.func86, by kernel_rfl, rfl, rfl, rfl⟩
theorem fd87_ok : FdOk 87 fd87 := ⟨Try.f87, Try.func87, by kernel_rfl, rfl, rfl, rfl⟩
theorem fd88_ok : FdOk 88 fd88 := ⟨Try.f88, Try.func88, by kernel_rfl, rfl, rfl, rfl⟩
theorem fd89_ok : FdOk 89 fd89 := ⟨Try.f89, Try.func89, by kernel_rfl, rfl, rfl, rfl⟩
theorem fd90_ok : FdOk 90 fd90 := ⟨Try.f90, Try.func90, by kernel_rfl, rfl, rfl, rfl⟩
theorem fd91_ok : FdOk 91 fd91 := ⟨Try.f91, Try.func91, by kernel_rfl, rfl, rfl, rfl⟩
theorem fd92_ok : FdOk 92 fd92 := ⟨Try.f92, Try.func92, by kernel_rfl, rfl, rfl, rfl⟩
theorem fd93_ok : FdOk 93 fd93 := ⟨Try.f93, Try.func93, by kernel_rfl, rfl, rfl, rfl⟩
theorem fd94_ok : FdOk 94 fd94 := ⟨Try.f94, Try.func94, by kernel_rfl, rfl, rfl, rfl⟩
noncomputable def fnsT : FuncId → Option Fd := fun t => (match Nat.blt t 48 with | true => (match Nat.blt t 25 with | true => (match Nat.blt t 13 with | true => (match Nat.blt t 7 with | true => (match Nat.blt t 4 with | true => (match Nat.blt t 3 with | true => (match Nat.beq t 2 with | true => some fd2 | false => none) | false => (match Nat.beq t 3 with | true => some fd3 | false => none)) | false => (match Nat.blt t 5 with | true => (match Nat.beq t 4 with | true => some fd4 | false => none) | false => (match Nat.blt t 6 with | true => (match Nat.beq t 5 with | true => some fd5 | false => none) | false => (match Nat.beq t 6 with | true => some fd6 | false => none)))) | false => (match Nat.blt t 10 with | true => (match Nat.blt t 8 with | true => (match Nat.beq t 7 with | true => some fd7 | false => none) | false => (match Nat.blt t 9 with | true => (match Nat.beq t 8 with | true => some fd8 | false => none) | false => (match Nat.beq t 9 with | true => some fd9 | false => none))) | false => (match Nat.blt t 11 with | true => (match Nat.beq t 10 with | true => some fd10 | false => none) | false => (match Nat.blt t 12 with | true => (match Nat.beq t 11 with | true => some fd11 | false => none) | false => (match Nat.beq t 12 with | true => some fd12 | false => none))))) | false => (match Nat.blt t 19 with | true => (match Nat.blt t 16 with | true => (match Nat.blt t 14 with | true => (match Nat.beq t 13 with | true => some fd13 | false => none) | false => (match Nat.blt t 15 with | true => (match Nat.beq t 14 with | true => some fd14 | false => none) | false => (match Nat.beq t 15 with | true => some fd15 | false => none))) | false => (match Nat.blt t 17 with | true => (match Nat.beq t 16 with | true => some fd16 | false => none) | false => (match Nat.blt t 18 with | true => (match Nat.beq t 17 with | true => some fd17 | false => none) | false => (match Nat.beq t 18 with | true => some fd18 | false => none)))) | false => (match Nat.blt t 22 with | true => (match Nat.blt t 20 with | true => (match Nat.beq t 19 with | true => some fd19 | false => none) | false => (match Nat.blt t 21 with | true => (match Nat.beq t 20 with | true => some fd20 | false => none) | false => (match Nat.beq t 21 with | true => some fd21 | false => none))) | false => (match Nat.blt t 23 with | true => (match Nat.beq t 22 with | true => some fd22 | false => none) | false => (match Nat.blt t 24 with | true => (match Nat.beq t 23 with | true => some fd23 | false => none) | false => (match Nat.beq t 24 with | true => some fd24 | false => none)))))) | false => (match Nat.blt t 36 with | true => (match Nat.blt t 30 with | true => (match Nat.blt t 27 with | true => (match Nat.blt t 26 with | true => (match Nat.beq t 25 with | true => some fd25 | false => none) | false => (match Nat.beq t 26 with | true => some fd26 | false => none)) | false => (match Nat.blt t 28 with | true => (match Nat.beq t 27 with | true => some fd27 | false => none) | false => (match Nat.blt t 29 with | true => (match Nat.beq t 28 with | true => some fd28 | false => none) | false => (match Nat.beq t 29 with | true => some fd29 | false => none)))) | false => (match Nat.blt t 33 with | true => (match Nat.blt t 31 with | true => (match Nat.beq t 30 with | true => some fd30 | false => none) | false => (match Nat.blt t 32 with | true => (match Nat.beq t 31 with | true => some fd31 | false => none) | false => (match Nat.beq t 32 with | true => some fd32 | false => none))) | false => (match Nat.blt t 34 with | true => (match Nat.beq t 33 with | true => some fd33 | false => none) | false => (match Nat.blt t 35 with | true => (match Nat.beq t 34 with | true => some fd34 | false => none) | false => (match Nat.beq t 35 with | true => some fd35 | false => none))))) | false => (match Nat.blt t 42 with | true => (match Nat.blt t 39 with | true => (match Nat.blt t 37 with | true => (match Nat.beq t 36 with | true => some fd36 | false => none) | false => (match Nat.blt t 38 with | true => (match Nat.beq t 37 with | true => some fd37 | false => none) | false => (match Nat.beq t 38 with | true => some fd38 | false => none))) | false => (match Nat.blt t 40 with | true => (match Nat.beq t 39 with | true => some fd39 | false => none) | false => (match Nat.blt t 41 with | true => (match Nat.beq t 40 with | true => some fd40 | false => none) | false => (match Nat.beq t 41 with | true => some fd41 | false => none)))) | false => (match Nat.blt t 45 with | true => (match Nat.blt t 43 with | true => (match Nat.beq t 42 with | true => some fd42 | false => none) | false => (match Nat.blt t 44 with | true => (match Nat.beq t 43 with | true => some fd43 | false => none) | false => (match Nat.beq t 44 with | true => some fd44 | false => none))) | false => (match Nat.blt t 46 with | true => (match Nat.beq t 45 with | true => some fd45 | false => none) | false => (match Nat.blt t 47 with | true => (match Nat.beq t 46 with | true => some fd46 | false => none) | false => (match Nat.beq t 47 with | true => some fd47 | false => none))))))) | false => (match Nat.blt t 71 with | true => (match Nat.blt t 59 with | true => (match Nat.blt t 53 with | true => (match Nat.blt t 50 with | true => (match Nat.blt t 49 with | true => (match Nat.beq t 48 with | true => some fd48 | false => none) | false => (match Nat.beq t 49 with | true => some fd49 | false => none)) | false => (match Nat.blt t 51 with | true => (match Nat.beq t 50 with | true => some fd50 | false => none) | false => (match Nat.blt t 52 with | true => (match Nat.beq t 51 with | true => some fd51 | false => none) | false => (match Nat.beq t 52 with | true => some fd52 | false => none)))) | false => (match Nat.blt t 56 with | true => (match Nat.blt t 54 with | true => (match Nat.beq t 53 with | true => some fd53 | false => none) | false => (match Nat.blt t 55 with | true => (match Nat.beq t 54 with | true => some fd54 | false => none) | false => (match Nat.beq t 55 with | true => some fd55 | false => none))) | false => (match Nat.blt t 57 with | true => (match Nat.beq t 56 with | true => some fd56 | false => none) | false => (match Nat.blt t 58 with | true => (match Nat.beq t 57 with | true => some fd57 | false => none) | false => (match Nat.beq t 58 with | true => some fd58 | false => none))))) | false => (match Nat.blt t 65 with | true => (match Nat.blt t 62 with | true => (match Nat.blt t 60 with | true => (match Nat.beq t 59 with | true => some fd59 | false => none) | false => (match Nat.blt t 61 with | true => (match Nat.beq t 60 with | true => some fd60 | false => none) | false => (match Nat.beq t 61 with | true => some fd61 | false => none))) | false => (match Nat.blt t 63 with | true => (match Nat.beq t 62 with | true => some fd62 | false => none) | false => (match Nat.blt t 64 with | true => (match Nat.beq t 63 with | true => some fd63 | false => none) | false => (match Nat.beq t 64 with | true => some fd64 | false => none)))) | false => (match Nat.blt t 68 with | true => (match Nat.blt t 66 with | true => (match Nat.beq t 65 with | true => some fd65 | false => none) | false => (match Nat.blt t 67 with | true => (match Nat.beq t 66 with | true => some fd66 | false => none) | false => (match Nat.beq t 67 with | true => some fd67 | false => none))) | false => (match Nat.blt t 69 with | true => (match Nat.beq t 68 with | true => some fd68 | false => none) | false => (match Nat.blt t 70 with | true => (match Nat.beq t 69 with | true => some fd69 | false => none) | false => (match Nat.beq t 70 with | true => some fd70 | false => none)))))) | false => (match Nat.blt t 83 with | true => (match Nat.blt t 77 with | true => (match Nat.blt t 74 with | true => (match Nat.blt t 72 with | true => (match Nat.beq t 71 with | true => some fd71 | false => none) | false => (match Nat.blt t 73 with | true => (match Nat.beq t 72 with | true => some fd72 | false => none) | false => (match Nat.beq t 73 with | true => some fd73 | false => none))) | false => (match Nat.blt t 75 with | true => (match Nat.beq t 74 with | true => some fd74 | false => none) | false => (match Nat.blt t 76 with | true => (match Nat.beq t 75 with | true => some fd75 | false => none) | false => (match Nat.beq t 76 with | true => some fd76 | false => none)))) | false => (match Nat.blt t 80 with | true => (match Nat.blt t 78 with | true => (match Nat.beq t 77 with | true => some fd77 | false => none) | false => (match Nat.blt t 79 with | true => (match Nat.beq t 78 with | true => some fd78 | false => none) | false => (match Nat.beq t 79 with | true => some fd79 | false => none))) | false => (match Nat.blt t 81 with | true => (match Nat.beq t 80 with | true => some fd80 | false => none) | false => (match Nat.blt t 82 with | true => (match Nat.beq t 81 with | true => some fd81 | false => none) | false => (match Nat.beq t 82 with | true => some fd82 | false => none))))) | false => (match Nat.blt t 89 with | true => (match Nat.blt t 86 with | true => (match Nat.blt t 84 with | true => (match Nat.beq t 83 with | true => some fd83 | false => none) | false => (match Nat.blt t 85 with | true => (match Nat.beq t 84 with | true => some fd84 | false => none) | false => (match Nat.beq t 85 with | true => some fd85 | false => none))) | false => (match Nat.blt t 87 with | true => (match Nat.beq t 86 with | true => some fd86 | false => none) | false => (match Nat.blt t 88 with | true => (match Nat.beq t 87 with | true => some fd87 | false => none) | false => (match Nat.beq t 88 with | true => some fd88 | false => none)))) | false => (match Nat.blt t 92 with | true => (match Nat.blt t 90 with | true => (match Nat.beq t 89 with | true => some fd89 | false => none) | false => (match Nat.blt t 91 with | true => (match Nat.beq t 90 with | true => some fd90 | false => none) | false => (match Nat.beq t 91 with | true => some fd91 | false => none))) | false => (match Nat.blt t 93 with | true => (match Nat.beq t 92 with | true => some fd92 | false => none) | false => (match Nat.blt t 94 with | true => (match Nat.beq t 93 with | true => some fd93 | false => none) | false => (match Nat.beq t 94 with | true => some fd94 | false => none))))))))
theorem fns_ok : ∀ f d, fnsT f = some d → ∃ fn, Try.prog.funcs[f]? = some fn ∧ (fn.name == "runtime.NumGoroutine") = false ∧ fn.body = some d.code ∧ fn.ntmps = d.N ∧ fn.results.toList = d.res := by
  intro t y h
  unfold fnsT at h
  repeat' split at h
  all_goals first
    | (cases h; done)
    | (injection h with h; subst h; rename_i hb; obtain rfl := Nat.eq_of_beq_eq_true hb; show FdOk _ _; first | with_reducible exact fd2_ok | with_reducible exact fd3_ok | with_reducible exact fd4_ok | with_reducible exact fd5_ok | with_reducible exact fd6_ok | with_reducible exact fd7_ok | with_reducible exact fd8_ok | with_reducible exact fd9_ok | with_reducible exact fd10_ok | with_reducible exact fd11_ok | with_reducible exact fd12_ok | with_reducible exact fd13_ok | with_reducible exact fd14_ok | with_reducible exact fd15_ok | with_reducible exact fd16_ok | with_reducible exact fd17_ok | with_reducible exact fd18_ok | with_reducible exact fd19_ok | with_reducible exact fd20_ok | with_reducible exact fd21_ok | with_reducible exact fd22_ok | with_reducible exact fd23_ok | with_reducible exact fd24_ok | with_reducible exact fd25_ok | with_reducible exact fd26_ok | with_reducible exact fd27_ok | with_reducible exact fd28_ok | with_reducible exact fd29_ok | with_reducible exact fd30_ok | with_reducible exact fd31_ok | with_reducible exact fd32_ok | with_reducible exact fd33_ok | with_reducible exact fd34_ok | with_reducible exact fd35_ok | with_reducible exact fd36_ok | with_reducible exact fd37_ok | with_reducible exact fd38_ok | with_reducible exact fd39_ok | with_reducible exact fd40_ok | with_reducible exact fd41_ok | with_reducible exact fd42_ok | with_reducible exact fd43_ok | with_reducible exact fd44_ok | with_reducible exact fd45_ok | with_reducible exact fd46_ok | with_reducible exact fd47_ok | with_reducible exact fd48_ok | with_reducible exact fd49_ok | with_reducible exact fd50_ok | with_reducible exact fd51_ok | with_reducible exact fd52_ok | with_reducible exact fd53_ok | with_reducible exact fd54_ok | with_reducible exact fd55_ok | with_reducible exact fd56_ok | with_reducible exact fd57_ok | with_reducible exact fd58_ok | with_reducible exact fd59_ok | with_reducible exact fd60_ok | with_reducible exact fd61_ok | with_reducible exact fd62_ok | with_reducible exact fd63_ok | with_reducible exact fd64_ok | with_reducible exact fd65_ok | with_reducible exact fd66_ok | with_reducible exact fd67_ok | with_reducible exact fd68_ok | with_reducible exact fd69_ok | with_reducible exact fd70_ok | with_reducible exact fd71_ok | with_reducible exact fd72_ok | with_reducible exact fd73_ok | with_reducible exact fd74_ok | with_reducible exact fd75_ok | with_reducible exact fd76_ok | with_reducible exact fd77_ok | with_reducible exact fd78_ok | with_reducible exact fd79_ok | with_reducible exact fd80_ok | with_reducible exact fd81_ok | with_reducible exact fd82_ok | with_reducible exact fd83_ok | with_reducible exact fd84_ok | with_reducible exact fd85_ok | with_reducible exact fd86_ok | with_reducible exact fd87_ok | with_reducible exact fd88_ok | with_reducible exact fd89_ok | with_reducible exact fd90_ok | with_reducible exact fd91_ok | with_reducible exact fd92_ok | with_reducible exact fd93_ok | with_reducible exact fd94_ok)
noncomputable def fns : Fns Try.prog := ⟨fnsT, fns_ok⟩
theorem eqt7_ok (ks : List SK) (h : shp tys 8 7 = some ks) (l1 l2 : List SV) (b : Bool) (he : eqCells ks l1 l2 = some b) : EqOk Try.prog 7 l1 l2 b := eq_ok tys_ok (y := ty7) (by kernel_rfl) (by kernel_rfl) h (by kernel_rfl) (by kernel_rfl) he
theorem eqt8_ok (ks : List SK) (h : shp tys 8 8 = some ks) (l1 l2 : List SV) (b : Bool) (he : eqCells ks l1 l2 = some b) : EqOk Try.prog 8 l1 l2 b := eq_ok tys_ok (y := ty8) (by kernel_rfl) (by kernel_rfl) h (by kernel_rfl) (by kernel_rfl) he
theorem eqt50_ok (ks : List SK) (h : shp tys 8 50 = some ks) (l1 l2 : List SV) (b : Bool) (he : eqCells ks l1 l2 = some b) : EqOk Try.prog 50 l1 l2 b := eq_ok tys_ok (y := ty50) (by kernel_rfl) (by kernel_rfl) h (by kernel_rfl) (by kernel_rfl) he
theorem eqt51_ok (ks : List SK) (h : shp tys 8 51 = some ks) (l1 l2 : List SV) (b : Bool) (he : eqCells ks l1 l2 = some b) : EqOk Try.prog 51 l1 l2 b := eq_ok tys_ok (y := ty51) (by kernel_rfl) (by kernel_rfl) h (by kernel_rfl) (by kernel_rfl) he
theorem eqt58_ok (ks : List SK) (h : shp tys 8 58 = some ks) (l1 l2 : List SV) (b : Bool) (he : eqCells ks l1 l2 = some b) : EqOk Try.prog 58 l1 l2 b := eq_ok tys_ok (y := ty58) (by kernel_rfl) (by kernel_rfl) h (by kernel_rfl) (by kernel_rfl) he
theorem eqt59_ok (ks : List SK) (h : shp tys 8 59 = some ks) (l1 l2 : List SV) (b : Bool) (he : eqCells ks l1 l2 = some b) : EqOk Try.prog 59 l1 l2 b := eq_ok tys_ok (y := ty59) (by kernel_rfl) (by kernel_rfl) h (by kernel_rfl) (by kernel_rfl) he
theorem eqt75_ok (ks : List SK) (h : shp tys 8 75 = some ks) (l1 l2 : List SV) (b : Bool) (he : eqCells ks l1 l2 = some b) : EqOk Try.prog 75 l1 l2 b := eq_ok tys_ok (y := ty75) (by kernel_rfl) (by kernel_rfl) h (by kernel_rfl) (by kernel_rfl) he
theorem eqt76_ok (ks : List SK) (h : shp tys 8 76 = some ks) (l1 l2 : List SV) (b : Bool) (he : eqCells ks l1 l2 = some b) : EqOk Try.prog 76 l1 l2 b := eq_ok tys_ok (y := ty76) (by kernel_rfl) (by kernel_rfl) h (by kernel_rfl) (by kernel_rfl) he
theorem eqt77_ok (ks : List SK) (h : shp tys 8 77 = some ks) (l1 l2 : List SV) (b : Bool) (he : eqCells ks l1 l2 = some b) : EqOk Try.prog 77 l1 l2 b := eq_ok tys_ok (y := ty77) (by kernel_rfl) (by kernel_rfl) h (by kernel_rfl) (by kernel_rfl) he
theorem eqt78_ok (ks : List SK) (h : shp tys 8 78 = some ks) (l1 l2 : List SV) (b : Bool) (he : eqCells ks l1 l2 = some b) : EqOk Try.prog 78 l1 l2 b := eq_ok tys_ok (y := ty78) (by kernel_rfl) (by kernel_rfl) h (by kernel_rfl) (by kernel_rfl) he
theorem eqt94_ok (ks : List SK) (h : shp tys 8 94 = some ks) (l1 l2 : List SV) (b : Bool) (he : eqCells ks l1 l2 = some b) : EqOk Try.prog 94 l1 l2 b := eq_ok tys_ok (y := ty94) (by kernel_rfl) (by kernel_rfl) h (by kernel_rfl) (by kernel_rfl) he
theorem eqt95_ok (ks : List SK) (h : shp tys 8 95 = some ks) (l1 l2 : List SV) (b : Bool) (he : eqCells ks l1 l2 = some b) : EqOk Try.prog 95 l1 l2 b := eq_ok tys_ok (y := ty95) (by kernel_rfl) (by kernel_rfl) h (by kernel_rfl) (by kernel_rfl) he
theorem eqt106_ok (ks : List SK) (h : shp tys 8 106 = some ks) (l1 l2 : List SV) (b : Bool) (he : eqCells ks l1 l2 = some b) : EqOk Try.prog 106 l1 l2 b := eq_ok tys_ok (y := ty106) (by kernel_rfl) (by kernel_rfl) h (by kernel_rfl) (by kernel_rfl) he
theorem eqt107_ok (ks : List SK) (h : shp tys 8 107 = some ks) (l1 l2 : List SV) (b : Bool) (he : eqCells ks l1 l2 = some b) : EqOk Try.prog 107 l1 l2 b := eq_ok tys_ok (y := ty107) (by kernel_rfl) (by kernel_rfl) h (by kernel_rfl) (by kernel_rfl) he
noncomputable def eqtT : TypeId → Option (List SK) := fun t => (match Nat.blt t 76 with | true => (match Nat.blt t 51 with | true => (match Nat.blt t 8 with | true => (match Nat.beq t 7 with | true => shp tys 8 7 | false => none) | false => (match Nat.blt t 50 with | true => (match Nat.beq t 8 with | true => shp tys 8 8 | false => none) | false => (match Nat.beq t 50 with | true => shp tys 8 50 | false => none))) | false => (match Nat.blt t 59 with | true => (match Nat.blt t 58 with | true => (match Nat.beq t 51 with | true => shp tys 8 51 | false => none) | false => (match Nat.beq t 58 with | true => shp tys 8 58 | false => none)) | false => (match Nat.blt t 75 with | true => (match Nat.beq t 59 with | true => shp tys 8 59 | false => none) | false => (match Nat.beq t 75 with | true => shp tys 8 75 | false => none)))) | false => (match Nat.blt t 94 with | true => (match Nat.blt t 77 with | true => (match Nat.beq t 76 with | true => shp tys 8 76 | false => none) | false => (match Nat.blt t 78 with | true => (match Nat.beq t 77 with | true => shp tys 8 77 | false => none) | false => (match Nat.beq t 78 with | true => shp tys 8 78 | false => none))) | false => (match Nat.blt t 106 with | true => (match Nat.blt t 95 with | true => (match Nat.beq t 94 with | true => shp tys 8 94 | false => none) | false => (match Nat.beq t 95 with | true => shp tys 8 95 | false => none)) | false => (match Nat.blt t 107 with | true => (match Nat.beq t 106 with | true => shp tys 8 106 | false => none) | false => (match Nat.beq t 107 with | true => shp tys 8 107 | false => none)))))
theorem eqt_ok : ∀ t ks, eqtT t = some ks → ∀ l1 l2 b, eqCells ks l1 l2 = some b → EqOk Try.prog t l1 l2 b := by
  intro t y h
  unfold eqtT at h
  repeat' split at h
  all_goals first
    | (cases h; done)
    | (rename_i hb; obtain rfl := Nat.eq_of_beq_eq_true hb; first | with_reducible exact eqt7_ok _ h | with_reducible exact eqt8_ok _ h | with_reducible exact eqt50_ok _ h | with_reducible exact eqt51_ok _ h | with_reducible exact eqt58_ok _ h | with_reducible exact eqt59_ok _ h | with_reducible exact eqt75_ok _ h | with_reducible exact eqt76_ok _ h | with_reducible exact eqt77_ok _ h | with_reducible exact eqt78_ok _ h | with_reducible exact eqt94_ok _ h | with_reducible exact eqt95_ok _ h | with_reducible exact eqt106_ok _ h | with_reducible exact eqt107_ok _ h)
noncomputable def eqt : EqT Try.prog := ⟨eqtT, eqt_ok⟩
noncomputable def noCt : Ctr Try.prog := ⟨fun _ _ _ => none, fun _ _ _ _ h => by cases h⟩
/-- A run of a function from no rows is its contract. -/
theorem run_fn {fuel depth : Nat} {f : FuncId} {args : List AV} {R : Res} (h : runF eqt tys true fns noCt fuel depth f args [] = some R) : Fn Try.prog f args [] (· = R) := runF_ok mixed tys_ok depth f args [] R (fun _ h => by cases h) h
end Go.Proofs.Ytcaddlighhiepaa
