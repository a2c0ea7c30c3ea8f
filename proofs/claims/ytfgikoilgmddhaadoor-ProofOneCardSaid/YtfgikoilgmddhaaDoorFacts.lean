/- Closed facts of the translation: sizes of types, places of fields, names of functions. Printed by facts.py. -/
import Derived.Test.YtfgikoilgmddhaaDoorProg
import Derived.Test.YtfgikoilgmddhaaDoorPl
import Derived.KernelRfl
set_option linter.unusedVariables false
namespace Go.Proofs.YtfgikoilgmddhaaDoor
open Go.Sx
theorem sz3 : (Tryd.prog.info? 3).map (·.size) = some 1 := by kernel_rfl
theorem ty3 : Ty Tryd.prog 3 1 false := ⟨sz3, by kernel_rfl⟩
theorem sz4 : (Tryd.prog.info? 4).map (·.size) = some 1 := by kernel_rfl
theorem ty4 : Ty Tryd.prog 4 1 false := ⟨sz4, by kernel_rfl⟩
theorem sz5 : (Tryd.prog.info? 5).map (·.size) = some 1 := by kernel_rfl
theorem ty5 : Ty Tryd.prog 5 1 false := ⟨sz5, by kernel_rfl⟩
theorem sz9 : (Tryd.prog.info? 9).map (·.size) = some 1 := by kernel_rfl
theorem ty9 : Ty Tryd.prog 9 1 false := ⟨sz9, by kernel_rfl⟩
theorem sz22 : (Tryd.prog.info? 22).map (·.size) = some 1 := by kernel_rfl
theorem ty22 : Ty Tryd.prog 22 1 false := ⟨sz22, by kernel_rfl⟩
theorem el22 : El Tryd.prog 22 28 32 32 := ⟨by kernel_rfl, by kernel_rfl, by decide⟩
theorem sz23 : (Tryd.prog.info? 23).map (·.size) = some 1 := by kernel_rfl
theorem ty23 : Ty Tryd.prog 23 1 false := ⟨sz23, by kernel_rfl⟩
theorem sz25 : (Tryd.prog.info? 25).map (·.size) = some 1 := by kernel_rfl
theorem ty25 : Ty Tryd.prog 25 1 false := ⟨sz25, by kernel_rfl⟩
theorem sz28 : (Tryd.prog.info? 28).map (·.size) = some 32 := by kernel_rfl
theorem ty28 : Ty Tryd.prog 28 32 true := ⟨sz28, by kernel_rfl⟩
theorem sz29 : (Tryd.prog.info? 29).map (·.size) = some 1 := by kernel_rfl
theorem ty29 : Ty Tryd.prog 29 1 false := ⟨sz29, by kernel_rfl⟩
theorem sz38 : (Tryd.prog.info? 38).map (·.size) = some 1024 := by kernel_rfl
theorem ty38 : Ty Tryd.prog 38 1024 true := ⟨sz38, by kernel_rfl⟩
theorem sz44 : (Tryd.prog.info? 44).map (·.size) = some 1 := by kernel_rfl
theorem ty44 : Ty Tryd.prog 44 1 false := ⟨sz44, by kernel_rfl⟩
theorem el44 : El Tryd.prog 44 73 34 48 := ⟨by kernel_rfl, by kernel_rfl, by decide⟩
theorem sz45 : (Tryd.prog.info? 45).map (·.size) = some 1 := by kernel_rfl
theorem ty45 : Ty Tryd.prog 45 1 false := ⟨sz45, by kernel_rfl⟩
theorem sz69 : (Tryd.prog.info? 69).map (·.size) = some 1 := by kernel_rfl
theorem ty69 : Ty Tryd.prog 69 1 false := ⟨sz69, by kernel_rfl⟩
theorem el69 : El Tryd.prog 69 22 1 24 := ⟨by kernel_rfl, by kernel_rfl, by decide⟩
theorem sz71 : (Tryd.prog.info? 71).map (·.size) = some 2 := by kernel_rfl
theorem ty71 : Ty Tryd.prog 71 2 true := ⟨sz71, by kernel_rfl⟩
theorem fl71_0 : Fld Tryd.prog 71 0 0 := ⟨_, _, Tryd.underlying71, rfl, rfl, by kernel_rfl⟩
theorem fd71_0 : ∃ fs fd, Tryd.prog.underlying 71 = some (.struct fs) ∧ fs[0]? = some fd ∧ fd.offset = 0 ∧ Ty Tryd.prog fd.type 1 false := ⟨_, _, Tryd.underlying71, rfl, rfl, by kernel_rfl, by kernel_rfl⟩
theorem fl71_1 : Fld Tryd.prog 71 1 1 := ⟨_, _, Tryd.underlying71, rfl, rfl, by kernel_rfl⟩
theorem fd71_1 : ∃ fs fd, Tryd.prog.underlying 71 = some (.struct fs) ∧ fs[1]? = some fd ∧ fd.offset = 1 ∧ Ty Tryd.prog fd.type 1 false := ⟨_, _, Tryd.underlying71, rfl, rfl, by kernel_rfl, by kernel_rfl⟩
theorem sz73 : (Tryd.prog.info? 73).map (·.size) = some 34 := by kernel_rfl
theorem ty73 : Ty Tryd.prog 73 34 true := ⟨sz73, by kernel_rfl⟩
theorem fl73_0 : Fld Tryd.prog 73 0 0 := ⟨_, _, Tryd.underlying73, rfl, rfl, by kernel_rfl⟩
theorem fd73_0 : ∃ fs fd, Tryd.prog.underlying 73 = some (.struct fs) ∧ fs[0]? = some fd ∧ fd.offset = 0 ∧ Ty Tryd.prog fd.type 1 false := ⟨_, _, Tryd.underlying73, rfl, rfl, by kernel_rfl, by kernel_rfl⟩
theorem fl73_1 : Fld Tryd.prog 73 1 1 := ⟨_, _, Tryd.underlying73, rfl, rfl, by kernel_rfl⟩
theorem fd73_1 : ∃ fs fd, Tryd.prog.underlying 73 = some (.struct fs) ∧ fs[1]? = some fd ∧ fd.offset = 1 ∧ Ty Tryd.prog fd.type 32 true := ⟨_, _, Tryd.underlying73, rfl, rfl, by kernel_rfl, by kernel_rfl⟩
theorem fl73_2 : Fld Tryd.prog 73 2 33 := ⟨_, _, Tryd.underlying73, rfl, rfl, by kernel_rfl⟩
theorem fd73_2 : ∃ fs fd, Tryd.prog.underlying 73 = some (.struct fs) ∧ fs[2]? = some fd ∧ fd.offset = 33 ∧ Ty Tryd.prog fd.type 1 false := ⟨_, _, Tryd.underlying73, rfl, rfl, by kernel_rfl, by kernel_rfl⟩
theorem sz76 : (Tryd.prog.info? 76).map (·.size) = some 1056 := by kernel_rfl
theorem ty76 : Ty Tryd.prog 76 1056 true := ⟨sz76, by kernel_rfl⟩
theorem sz79 : (Tryd.prog.info? 79).map (·.size) = some 1 := by kernel_rfl
theorem ty79 : Ty Tryd.prog 79 1 false := ⟨sz79, by kernel_rfl⟩
theorem el79 : El Tryd.prog 79 5 1 1 := ⟨by kernel_rfl, by kernel_rfl, by decide⟩
theorem sz82 : (Tryd.prog.info? 82).map (·.size) = some 1 := by kernel_rfl
theorem ty82 : Ty Tryd.prog 82 1 false := ⟨sz82, by kernel_rfl⟩
theorem el82 : El Tryd.prog 82 79 1 24 := ⟨by kernel_rfl, by kernel_rfl, by decide⟩
theorem sz85 : (Tryd.prog.info? 85).map (·.size) = some 1 := by kernel_rfl
theorem ty85 : Ty Tryd.prog 85 1 false := ⟨sz85, by kernel_rfl⟩
theorem el85 : El Tryd.prog 85 9 1 16 := ⟨by kernel_rfl, by kernel_rfl, by decide⟩
theorem sz88 : (Tryd.prog.info? 88).map (·.size) = some 1 := by kernel_rfl
theorem ty88 : Ty Tryd.prog 88 1 false := ⟨sz88, by kernel_rfl⟩
theorem sz91 : (Tryd.prog.info? 91).map (·.size) = some 1 := by kernel_rfl
theorem ty91 : Ty Tryd.prog 91 1 false := ⟨sz91, by kernel_rfl⟩
theorem sz93 : (Tryd.prog.info? 93).map (·.size) = some 1 := by kernel_rfl
theorem ty93 : Ty Tryd.prog 93 1 true := ⟨sz93, by kernel_rfl⟩
theorem fl93_0 : Fld Tryd.prog 93 0 0 := ⟨_, _, Tryd.underlying93, rfl, rfl, by kernel_rfl⟩
theorem fd93_0 : ∃ fs fd, Tryd.prog.underlying 93 = some (.struct fs) ∧ fs[0]? = some fd ∧ fd.offset = 0 ∧ Ty Tryd.prog fd.type 1 false := ⟨_, _, Tryd.underlying93, rfl, rfl, by kernel_rfl, by kernel_rfl⟩
theorem sz96 : (Tryd.prog.info? 96).map (·.size) = some 1 := by kernel_rfl
theorem ty96 : Ty Tryd.prog 96 1 false := ⟨sz96, by kernel_rfl⟩
theorem sz99 : (Tryd.prog.info? 99).map (·.size) = some 8 := by kernel_rfl
theorem ty99 : Ty Tryd.prog 99 8 true := ⟨sz99, by kernel_rfl⟩
theorem sz101 : (Tryd.prog.info? 101).map (·.size) = some 64 := by kernel_rfl
theorem ty101 : Ty Tryd.prog 101 64 true := ⟨sz101, by kernel_rfl⟩
theorem sz106 : (Tryd.prog.info? 106).map (·.size) = some 10 := by kernel_rfl
theorem ty106 : Ty Tryd.prog 106 10 true := ⟨sz106, by kernel_rfl⟩
theorem fl106_0 : Fld Tryd.prog 106 0 0 := ⟨_, _, Tryd.underlying106, rfl, rfl, by kernel_rfl⟩
theorem fd106_0 : ∃ fs fd, Tryd.prog.underlying 106 = some (.struct fs) ∧ fs[0]? = some fd ∧ fd.offset = 0 ∧ Ty Tryd.prog fd.type 8 true := ⟨_, _, Tryd.underlying106, rfl, rfl, by kernel_rfl, by kernel_rfl⟩
theorem fl106_1 : Fld Tryd.prog 106 1 8 := ⟨_, _, Tryd.underlying106, rfl, rfl, by kernel_rfl⟩
theorem fd106_1 : ∃ fs fd, Tryd.prog.underlying 106 = some (.struct fs) ∧ fs[1]? = some fd ∧ fd.offset = 8 ∧ Ty Tryd.prog fd.type 1 false := ⟨_, _, Tryd.underlying106, rfl, rfl, by kernel_rfl, by kernel_rfl⟩
theorem fl106_2 : Fld Tryd.prog 106 2 9 := ⟨_, _, Tryd.underlying106, rfl, rfl, by kernel_rfl⟩
theorem fd106_2 : ∃ fs fd, Tryd.prog.underlying 106 = some (.struct fs) ∧ fs[2]? = some fd ∧ fd.offset = 9 ∧ Ty Tryd.prog fd.type 1 false := ⟨_, _, Tryd.underlying106, rfl, rfl, by kernel_rfl, by kernel_rfl⟩
theorem bd28 : Bld Tryd.prog 28 [(0, 1), (1, 1), (2, 1), (3, 1), (4, 1), (5, 1), (6, 1), (7, 1), (8, 1), (9, 1), (10, 1), (11, 1), (12, 1), (13, 1), (14, 1), (15, 1), (16, 1), (17, 1), (18, 1), (19, 1), (20, 1), (21, 1), (22, 1), (23, 1), (24, 1), (25, 1), (26, 1), (27, 1), (28, 1), (29, 1), (30, 1), (31, 1)] ((List.replicate 32 (.int .u8 0)) : List Value) := ⟨by kernel_rfl, .inr ⟨_, _, _, Tryd.underlying28, sz5, by kernel_rfl⟩⟩
theorem bd38 : Bld Tryd.prog 38 [(0, 32), (32, 32), (64, 32), (96, 32), (128, 32), (160, 32), (192, 32), (224, 32), (256, 32), (288, 32), (320, 32), (352, 32), (384, 32), (416, 32), (448, 32), (480, 32), (512, 32), (544, 32), (576, 32), (608, 32), (640, 32), (672, 32), (704, 32), (736, 32), (768, 32), (800, 32), (832, 32), (864, 32), (896, 32), (928, 32), (960, 32), (992, 32)] ((List.replicate 32 ((List.replicate 32 (.int .u8 0)))).flatten : List Value) := ⟨by kernel_rfl, .inr ⟨_, _, _, Tryd.underlying38, sz28, by kernel_rfl⟩⟩
theorem bd71 : Bld Tryd.prog 71 [(0, 1), (1, 1)] (([.slice none 0 0] ++ [.slice none 0 0]) : List Value) := ⟨by kernel_rfl, .inl ⟨_, Tryd.underlying71, by kernel_rfl⟩⟩
theorem bd93 : Bld Tryd.prog 93 [(0, 1)] (([.slice none 0 0]) : List Value) := ⟨by kernel_rfl, .inl ⟨_, Tryd.underlying93, by kernel_rfl⟩⟩
theorem bd99 : Bld Tryd.prog 99 [(0, 1), (1, 1), (2, 1), (3, 1), (4, 1), (5, 1), (6, 1), (7, 1)] ((List.replicate 8 (.int .u32 0)) : List Value) := ⟨by kernel_rfl, .inr ⟨_, _, _, Tryd.underlying99, sz96, by kernel_rfl⟩⟩
theorem bd101 : Bld Tryd.prog 101 [(0, 1), (1, 1), (2, 1), (3, 1), (4, 1), (5, 1), (6, 1), (7, 1), (8, 1), (9, 1), (10, 1), (11, 1), (12, 1), (13, 1), (14, 1), (15, 1), (16, 1), (17, 1), (18, 1), (19, 1), (20, 1), (21, 1), (22, 1), (23, 1), (24, 1), (25, 1), (26, 1), (27, 1), (28, 1), (29, 1), (30, 1), (31, 1), (32, 1), (33, 1), (34, 1), (35, 1), (36, 1), (37, 1), (38, 1), (39, 1), (40, 1), (41, 1), (42, 1), (43, 1), (44, 1), (45, 1), (46, 1), (47, 1), (48, 1), (49, 1), (50, 1), (51, 1), (52, 1), (53, 1), (54, 1), (55, 1), (56, 1), (57, 1), (58, 1), (59, 1), (60, 1), (61, 1), (62, 1), (63, 1)] ((List.replicate 64 (.int .u32 0)) : List Value) := ⟨by kernel_rfl, .inr ⟨_, _, _, Tryd.underlying101, sz96, by kernel_rfl⟩⟩
theorem bd106 : Bld Tryd.prog 106 [(0, 8), (8, 1), (9, 1)] (((List.replicate 8 (.int .u32 0)) ++ [.slice none 0 0] ++ [.int .u64 0]) : List Value) := ⟨by kernel_rfl, .inl ⟨_, Tryd.underlying106, by kernel_rfl⟩⟩
theorem al28 : (Tryd.prog.info? 28).bind (fun i => i.zero.map Value.cells) = some ((bytesV (List.replicate 32 0)) : List Value).toArray := by kernel_rfl
theorem al38 : (Tryd.prog.info? 38).bind (fun i => i.zero.map Value.cells) = some ((List.replicate 32 ((bytesV (List.replicate 32 0)))).flatten : List Value).toArray := by kernel_rfl
theorem al73 : (Tryd.prog.info? 73).bind (fun i => i.zero.map Value.cells) = some (([.int .u8 0] ++ (bytesV (List.replicate 32 0)) ++ [.int .u64 0]) : List Value).toArray := by kernel_rfl
theorem al76 : (Tryd.prog.info? 76).bind (fun i => i.zero.map Value.cells) = some ((List.replicate 33 ((bytesV (List.replicate 32 0)))).flatten : List Value).toArray := by kernel_rfl
theorem al99 : (Tryd.prog.info? 99).bind (fun i => i.zero.map Value.cells) = some ((List.replicate 8 (.int .u32 0)) : List Value).toArray := by kernel_rfl
theorem al101 : (Tryd.prog.info? 101).bind (fun i => i.zero.map Value.cells) = some ((List.replicate 64 (.int .u32 0)) : List Value).toArray := by kernel_rfl
theorem nm11 : (Tryd.f11.name == "runtime.NumGoroutine") = false := by kernel_rfl
theorem nm12 : (Tryd.f12.name == "runtime.NumGoroutine") = false := by kernel_rfl
theorem nm13 : (Tryd.f13.name == "runtime.NumGoroutine") = false := by kernel_rfl
theorem nm14 : (Tryd.f14.name == "runtime.NumGoroutine") = false := by kernel_rfl
theorem nm15 : (Tryd.f15.name == "runtime.NumGoroutine") = false := by kernel_rfl
theorem nm16 : (Tryd.f16.name == "runtime.NumGoroutine") = false := by kernel_rfl
theorem nm17 : (Tryd.f17.name == "runtime.NumGoroutine") = false := by kernel_rfl
theorem nm18 : (Tryd.f18.name == "runtime.NumGoroutine") = false := by kernel_rfl
theorem nm19 : (Tryd.f19.name == "runtime.NumGoroutine") = false := by kernel_rfl
theorem nm20 : (Tryd.f20.name == "runtime.NumGoroutine") = false := by kernel_rfl
theorem nm21 : (Tryd.f21.name == "runtime.NumGoroutine") = false := by kernel_rfl
theorem nm22 : (Tryd.f22.name == "runtime.NumGoroutine") = false := by kernel_rfl
theorem nm23 : (Tryd.f23.name == "runtime.NumGoroutine") = false := by kernel_rfl
theorem nm24 : (Tryd.f24.name == "runtime.NumGoroutine") = false := by kernel_rfl
theorem nm25 : (Tryd.f25.name == "runtime.NumGoroutine") = false := by kernel_rfl
theorem nm26 : (Tryd.f26.name == "runtime.NumGoroutine") = false := by kernel_rfl
theorem nm27 : (Tryd.f27.name == "runtime.NumGoroutine") = false := by kernel_rfl
theorem nm28 : (Tryd.f28.name == "runtime.NumGoroutine") = false := by kernel_rfl
theorem nm29 : (Tryd.f29.name == "runtime.NumGoroutine") = false := by kernel_rfl
theorem nm30 : (Tryd.f30.name == "runtime.NumGoroutine") = false := by kernel_rfl
theorem nm31 : (Tryd.f31.name == "runtime.NumGoroutine") = false := by kernel_rfl
theorem nm32 : (Tryd.f32.name == "runtime.NumGoroutine") = false := by kernel_rfl
theorem nm33 : (Tryd.f33.name == "runtime.NumGoroutine") = false := by kernel_rfl
theorem nm34 : (Tryd.f34.name == "runtime.NumGoroutine") = false := by kernel_rfl
theorem nm35 : (Tryd.f35.name == "runtime.NumGoroutine") = false := by kernel_rfl
theorem nm36 : (Tryd.f36.name == "runtime.NumGoroutine") = false := by kernel_rfl
theorem nm37 : (Tryd.f37.name == "runtime.NumGoroutine") = false := by kernel_rfl
theorem nm38 : (Tryd.f38.name == "runtime.NumGoroutine") = false := by kernel_rfl
theorem nm39 : (Tryd.f39.name == "runtime.NumGoroutine") = false := by kernel_rfl
theorem nm40 : (Tryd.f40.name == "runtime.NumGoroutine") = false := by kernel_rfl
theorem nm41 : (Tryd.f41.name == "runtime.NumGoroutine") = false := by kernel_rfl
theorem nm42 : (Tryd.f42.name == "runtime.NumGoroutine") = false := by kernel_rfl
theorem nm43 : (Tryd.f43.name == "runtime.NumGoroutine") = false := by kernel_rfl
theorem nm44 : (Tryd.f44.name == "runtime.NumGoroutine") = false := by kernel_rfl
theorem nm45 : (Tryd.f45.name == "runtime.NumGoroutine") = false := by kernel_rfl
theorem nm46 : (Tryd.f46.name == "runtime.NumGoroutine") = false := by kernel_rfl
theorem nm47 : (Tryd.f47.name == "runtime.NumGoroutine") = false := by kernel_rfl
theorem nm48 : (Tryd.f48.name == "runtime.NumGoroutine") = false := by kernel_rfl
theorem nm49 : (Tryd.f49.name == "runtime.NumGoroutine") = false := by kernel_rfl
theorem nm50 : (Tryd.f50.name == "runtime.NumGoroutine") = false := by kernel_rfl
theorem nm51 : (Tryd.f51.name == "runtime.NumGoroutine") = false := by kernel_rfl
theorem nm52 : (Tryd.f52.name == "runtime.NumGoroutine") = false := by kernel_rfl
theorem nm53 : (Tryd.f53.name == "runtime.NumGoroutine") = false := by kernel_rfl
theorem nm54 : (Tryd.f54.name == "runtime.NumGoroutine") = false := by kernel_rfl
theorem nm55 : (Tryd.f55.name == "runtime.NumGoroutine") = false := by kernel_rfl
theorem nm56 : (Tryd.f56.name == "runtime.NumGoroutine") = false := by kernel_rfl
theorem nm57 : (Tryd.f57.name == "runtime.NumGoroutine") = false := by kernel_rfl
theorem nm58 : (Tryd.f58.name == "runtime.NumGoroutine") = false := by kernel_rfl
theorem nm59 : (Tryd.f59.name == "runtime.NumGoroutine") = false := by kernel_rfl
theorem nm60 : (Tryd.f60.name == "runtime.NumGoroutine") = false := by kernel_rfl
theorem nm61 : (Tryd.f61.name == "runtime.NumGoroutine") = false := by kernel_rfl
theorem nm62 : (Tryd.f62.name == "runtime.NumGoroutine") = false := by kernel_rfl
theorem mixed : Tryd.prog.follows .mixedOrders = true := by kernel_rfl
end Go.Proofs.YtfgikoilgmddhaaDoor
