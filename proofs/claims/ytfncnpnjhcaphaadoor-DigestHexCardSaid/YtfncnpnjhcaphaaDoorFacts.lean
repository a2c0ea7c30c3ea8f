/- Closed facts of the translation: sizes of types, places of fields, names of functions. Printed by facts.py. -/
import Derived.Test.YtfncnpnjhcaphaaDoorProg
import Derived.Test.YtfncnpnjhcaphaaDoorPl
import Derived.KernelRfl
set_option linter.unusedVariables false
namespace Go.Proofs.YtfncnpnjhcaphaaDoor
open Go.Sx
theorem sz3 : (Tryd.prog.info? 3).map (·.size) = some 1 := by kernel_rfl
theorem ty3 : Ty Tryd.prog 3 1 false := ⟨sz3, by kernel_rfl⟩
theorem sz4 : (Tryd.prog.info? 4).map (·.size) = some 1 := by kernel_rfl
theorem ty4 : Ty Tryd.prog 4 1 false := ⟨sz4, by kernel_rfl⟩
theorem sz5 : (Tryd.prog.info? 5).map (·.size) = some 1 := by kernel_rfl
theorem ty5 : Ty Tryd.prog 5 1 false := ⟨sz5, by kernel_rfl⟩
theorem sz9 : (Tryd.prog.info? 9).map (·.size) = some 1 := by kernel_rfl
theorem ty9 : Ty Tryd.prog 9 1 false := ⟨sz9, by kernel_rfl⟩
theorem sz22 : (Tryd.prog.info? 22).map (·.size) = some 1 := by kernel_rfl
theorem ty22 : Ty Tryd.prog 22 1 false := ⟨sz22, by kernel_rfl⟩
theorem el22 : El Tryd.prog 22 5 1 1 := ⟨by kernel_rfl, by kernel_rfl, by decide⟩
theorem sz24 : (Tryd.prog.info? 24).map (·.size) = some 32 := by kernel_rfl
theorem ty24 : Ty Tryd.prog 24 32 true := ⟨sz24, by kernel_rfl⟩
theorem sz25 : (Tryd.prog.info? 25).map (·.size) = some 32 := by kernel_rfl
theorem ty25 : Ty Tryd.prog 25 32 true := ⟨sz25, by kernel_rfl⟩
theorem sz29 : (Tryd.prog.info? 29).map (·.size) = some 1 := by kernel_rfl
theorem ty29 : Ty Tryd.prog 29 1 false := ⟨sz29, by kernel_rfl⟩
theorem el29 : El Tryd.prog 29 22 1 24 := ⟨by kernel_rfl, by kernel_rfl, by decide⟩
theorem sz30 : (Tryd.prog.info? 30).map (·.size) = some 1 := by kernel_rfl
theorem ty30 : Ty Tryd.prog 30 1 false := ⟨sz30, by kernel_rfl⟩
theorem sz41 : (Tryd.prog.info? 41).map (·.size) = some 1 := by kernel_rfl
theorem ty41 : Ty Tryd.prog 41 1 false := ⟨sz41, by kernel_rfl⟩
theorem el41 : El Tryd.prog 41 9 1 16 := ⟨by kernel_rfl, by kernel_rfl, by decide⟩
theorem sz48 : (Tryd.prog.info? 48).map (·.size) = some 1056 := by kernel_rfl
theorem ty48 : Ty Tryd.prog 48 1056 true := ⟨sz48, by kernel_rfl⟩
theorem sz52 : (Tryd.prog.info? 52).map (·.size) = some 1 := by kernel_rfl
theorem ty52 : Ty Tryd.prog 52 1 false := ⟨sz52, by kernel_rfl⟩
theorem sz53 : (Tryd.prog.info? 53).map (·.size) = some 1 := by kernel_rfl
theorem ty53 : Ty Tryd.prog 53 1 false := ⟨sz53, by kernel_rfl⟩
theorem sz55 : (Tryd.prog.info? 55).map (·.size) = some 4 := by kernel_rfl
theorem ty55 : Ty Tryd.prog 55 4 true := ⟨sz55, by kernel_rfl⟩
theorem sz57 : (Tryd.prog.info? 57).map (·.size) = some 7 := by kernel_rfl
theorem ty57 : Ty Tryd.prog 57 7 true := ⟨sz57, by kernel_rfl⟩
theorem fl57_0 : Fld Tryd.prog 57 0 0 := ⟨_, _, Tryd.underlying57, rfl, rfl, by kernel_rfl⟩
theorem fd57_0 : ∃ fs fd, Tryd.prog.underlying 57 = some (.struct fs) ∧ fs[0]? = some fd ∧ fd.offset = 0 ∧ Ty Tryd.prog fd.type 1 false := ⟨_, _, Tryd.underlying57, rfl, rfl, by kernel_rfl, by kernel_rfl⟩
theorem fl57_1 : Fld Tryd.prog 57 1 1 := ⟨_, _, Tryd.underlying57, rfl, rfl, by kernel_rfl⟩
theorem fd57_1 : ∃ fs fd, Tryd.prog.underlying 57 = some (.struct fs) ∧ fs[1]? = some fd ∧ fd.offset = 1 ∧ Ty Tryd.prog fd.type 1 false := ⟨_, _, Tryd.underlying57, rfl, rfl, by kernel_rfl, by kernel_rfl⟩
theorem fl57_2 : Fld Tryd.prog 57 2 2 := ⟨_, _, Tryd.underlying57, rfl, rfl, by kernel_rfl⟩
theorem fd57_2 : ∃ fs fd, Tryd.prog.underlying 57 = some (.struct fs) ∧ fs[2]? = some fd ∧ fd.offset = 2 ∧ Ty Tryd.prog fd.type 1 false := ⟨_, _, Tryd.underlying57, rfl, rfl, by kernel_rfl, by kernel_rfl⟩
theorem fl57_3 : Fld Tryd.prog 57 3 3 := ⟨_, _, Tryd.underlying57, rfl, rfl, by kernel_rfl⟩
theorem fd57_3 : ∃ fs fd, Tryd.prog.underlying 57 = some (.struct fs) ∧ fs[3]? = some fd ∧ fd.offset = 3 ∧ Ty Tryd.prog fd.type 4 true := ⟨_, _, Tryd.underlying57, rfl, rfl, by kernel_rfl, by kernel_rfl⟩
theorem sz61 : (Tryd.prog.info? 61).map (·.size) = some 1 := by kernel_rfl
theorem ty61 : Ty Tryd.prog 61 1 false := ⟨sz61, by kernel_rfl⟩
theorem sz67 : (Tryd.prog.info? 67).map (·.size) = some 8 := by kernel_rfl
theorem ty67 : Ty Tryd.prog 67 8 true := ⟨sz67, by kernel_rfl⟩
theorem sz69 : (Tryd.prog.info? 69).map (·.size) = some 64 := by kernel_rfl
theorem ty69 : Ty Tryd.prog 69 64 true := ⟨sz69, by kernel_rfl⟩
theorem sz73 : (Tryd.prog.info? 73).map (·.size) = some 10 := by kernel_rfl
theorem ty73 : Ty Tryd.prog 73 10 true := ⟨sz73, by kernel_rfl⟩
theorem fl73_0 : Fld Tryd.prog 73 0 0 := ⟨_, _, Tryd.underlying73, rfl, rfl, by kernel_rfl⟩
theorem fd73_0 : ∃ fs fd, Tryd.prog.underlying 73 = some (.struct fs) ∧ fs[0]? = some fd ∧ fd.offset = 0 ∧ Ty Tryd.prog fd.type 8 true := ⟨_, _, Tryd.underlying73, rfl, rfl, by kernel_rfl, by kernel_rfl⟩
theorem fl73_1 : Fld Tryd.prog 73 1 8 := ⟨_, _, Tryd.underlying73, rfl, rfl, by kernel_rfl⟩
theorem fd73_1 : ∃ fs fd, Tryd.prog.underlying 73 = some (.struct fs) ∧ fs[1]? = some fd ∧ fd.offset = 8 ∧ Ty Tryd.prog fd.type 1 false := ⟨_, _, Tryd.underlying73, rfl, rfl, by kernel_rfl, by kernel_rfl⟩
theorem fl73_2 : Fld Tryd.prog 73 2 9 := ⟨_, _, Tryd.underlying73, rfl, rfl, by kernel_rfl⟩
theorem fd73_2 : ∃ fs fd, Tryd.prog.underlying 73 = some (.struct fs) ∧ fs[2]? = some fd ∧ fd.offset = 9 ∧ Ty Tryd.prog fd.type 1 false := ⟨_, _, Tryd.underlying73, rfl, rfl, by kernel_rfl, by kernel_rfl⟩
theorem sz76 : (Tryd.prog.info? 76).map (·.size) = some 1 := by kernel_rfl
theorem ty76 : Ty Tryd.prog 76 1 false := ⟨sz76, by kernel_rfl⟩
theorem sz78 : (Tryd.prog.info? 78).map (·.size) = some 1 := by kernel_rfl
theorem ty78 : Ty Tryd.prog 78 1 true := ⟨sz78, by kernel_rfl⟩
theorem fl78_0 : Fld Tryd.prog 78 0 0 := ⟨_, _, Tryd.underlying78, rfl, rfl, by kernel_rfl⟩
theorem fd78_0 : ∃ fs fd, Tryd.prog.underlying 78 = some (.struct fs) ∧ fs[0]? = some fd ∧ fd.offset = 0 ∧ Ty Tryd.prog fd.type 1 false := ⟨_, _, Tryd.underlying78, rfl, rfl, by kernel_rfl, by kernel_rfl⟩
theorem sz85 : (Tryd.prog.info? 85).map (·.size) = some 1 := by kernel_rfl
theorem ty85 : Ty Tryd.prog 85 1 false := ⟨sz85, by kernel_rfl⟩
theorem sz95 : (Tryd.prog.info? 95).map (·.size) = some 2 := by kernel_rfl
theorem ty95 : Ty Tryd.prog 95 2 true := ⟨sz95, by kernel_rfl⟩
theorem fl95_0 : Fld Tryd.prog 95 0 0 := ⟨_, _, Tryd.underlying95, rfl, rfl, by kernel_rfl⟩
theorem fd95_0 : ∃ fs fd, Tryd.prog.underlying 95 = some (.struct fs) ∧ fs[0]? = some fd ∧ fd.offset = 0 ∧ Ty Tryd.prog fd.type 1 false := ⟨_, _, Tryd.underlying95, rfl, rfl, by kernel_rfl, by kernel_rfl⟩
theorem fl95_1 : Fld Tryd.prog 95 1 1 := ⟨_, _, Tryd.underlying95, rfl, rfl, by kernel_rfl⟩
theorem fd95_1 : ∃ fs fd, Tryd.prog.underlying 95 = some (.struct fs) ∧ fs[1]? = some fd ∧ fd.offset = 1 ∧ Ty Tryd.prog fd.type 1 false := ⟨_, _, Tryd.underlying95, rfl, rfl, by kernel_rfl, by kernel_rfl⟩
theorem sz100 : (Tryd.prog.info? 100).map (·.size) = some 1 := by kernel_rfl
theorem ty100 : Ty Tryd.prog 100 1 false := ⟨sz100, by kernel_rfl⟩
theorem bd55 : Bld Tryd.prog 55 [(0, 1), (1, 1), (2, 1), (3, 1)] ((List.replicate 4 (.int .u64 0)) : List Value) := ⟨by kernel_rfl, .inr ⟨_, _, _, Tryd.underlying55, sz53, by kernel_rfl⟩⟩
theorem bd57 : Bld Tryd.prog 57 [(0, 1), (1, 1), (2, 1), (3, 4)] (([.int .u32 0] ++ [.int .u8 0] ++ [.int .u8 0] ++ (List.replicate 4 (.int .u64 0))) : List Value) := ⟨by kernel_rfl, .inl ⟨_, Tryd.underlying57, by kernel_rfl⟩⟩
theorem bd67 : Bld Tryd.prog 67 [(0, 1), (1, 1), (2, 1), (3, 1), (4, 1), (5, 1), (6, 1), (7, 1)] ((List.replicate 8 (.int .u32 0)) : List Value) := ⟨by kernel_rfl, .inr ⟨_, _, _, Tryd.underlying67, sz52, by kernel_rfl⟩⟩
theorem bd69 : Bld Tryd.prog 69 [(0, 1), (1, 1), (2, 1), (3, 1), (4, 1), (5, 1), (6, 1), (7, 1), (8, 1), (9, 1), (10, 1), (11, 1), (12, 1), (13, 1), (14, 1), (15, 1), (16, 1), (17, 1), (18, 1), (19, 1), (20, 1), (21, 1), (22, 1), (23, 1), (24, 1), (25, 1), (26, 1), (27, 1), (28, 1), (29, 1), (30, 1), (31, 1), (32, 1), (33, 1), (34, 1), (35, 1), (36, 1), (37, 1), (38, 1), (39, 1), (40, 1), (41, 1), (42, 1), (43, 1), (44, 1), (45, 1), (46, 1), (47, 1), (48, 1), (49, 1), (50, 1), (51, 1), (52, 1), (53, 1), (54, 1), (55, 1), (56, 1), (57, 1), (58, 1), (59, 1), (60, 1), (61, 1), (62, 1), (63, 1)] ((List.replicate 64 (.int .u32 0)) : List Value) := ⟨by kernel_rfl, .inr ⟨_, _, _, Tryd.underlying69, sz52, by kernel_rfl⟩⟩
theorem bd73 : Bld Tryd.prog 73 [(0, 8), (8, 1), (9, 1)] (((List.replicate 8 (.int .u32 0)) ++ [.slice none 0 0] ++ [.int .u64 0]) : List Value) := ⟨by kernel_rfl, .inl ⟨_, Tryd.underlying73, by kernel_rfl⟩⟩
theorem bd78 : Bld Tryd.prog 78 [(0, 1)] (([.slice none 0 0]) : List Value) := ⟨by kernel_rfl, .inl ⟨_, Tryd.underlying78, by kernel_rfl⟩⟩
theorem bd95 : Bld Tryd.prog 95 [(0, 1), (1, 1)] (([.slice none 0 0] ++ [.int .i64 0]) : List Value) := ⟨by kernel_rfl, .inl ⟨_, Tryd.underlying95, by kernel_rfl⟩⟩
theorem al24 : (Tryd.prog.info? 24).bind (fun i => i.zero.map Value.cells) = some ((bytesV (List.replicate 32 0)) : List Value).toArray := by kernel_rfl
theorem al25 : (Tryd.prog.info? 25).bind (fun i => i.zero.map Value.cells) = some ((bytesV (List.replicate 32 0)) : List Value).toArray := by kernel_rfl
theorem al48 : (Tryd.prog.info? 48).bind (fun i => i.zero.map Value.cells) = some ((List.replicate 33 ((bytesV (List.replicate 32 0)))).flatten : List Value).toArray := by kernel_rfl
theorem al55 : (Tryd.prog.info? 55).bind (fun i => i.zero.map Value.cells) = some ((intV [0, 0, 0, 0]) : List Value).toArray := by kernel_rfl
theorem al57 : (Tryd.prog.info? 57).bind (fun i => i.zero.map Value.cells) = some (([.int .u32 0] ++ [.int .u8 0] ++ [.int .u8 0] ++ (intV [0, 0, 0, 0])) : List Value).toArray := by kernel_rfl
theorem al67 : (Tryd.prog.info? 67).bind (fun i => i.zero.map Value.cells) = some ((List.replicate 8 (.int .u32 0)) : List Value).toArray := by kernel_rfl
theorem al69 : (Tryd.prog.info? 69).bind (fun i => i.zero.map Value.cells) = some ((List.replicate 64 (.int .u32 0)) : List Value).toArray := by kernel_rfl
theorem nm12 : (Tryd.f12.name == "runtime.NumGoroutine") = false := by kernel_rfl
theorem nm13 : (Tryd.f13.name == "runtime.NumGoroutine") = false := by kernel_rfl
theorem nm14 : (Tryd.f14.name == "runtime.NumGoroutine") = false := by kernel_rfl
theorem nm15 : (Tryd.f15.name == "runtime.NumGoroutine") = false := by kernel_rfl
theorem nm16 : (Tryd.f16.name == "runtime.NumGoroutine") = false := by kernel_rfl
theorem nm17 : (Tryd.f17.name == "runtime.NumGoroutine") = false := by kernel_rfl
theorem nm18 : (Tryd.f18.name == "runtime.NumGoroutine") = false := by kernel_rfl
theorem nm19 : (Tryd.f19.name == "runtime.NumGoroutine") = false := by kernel_rfl
theorem nm20 : (Tryd.f20.name == "runtime.NumGoroutine") = false := by kernel_rfl
theorem nm21 : (Tryd.f21.name == "runtime.NumGoroutine") = false := by kernel_rfl
theorem nm22 : (Tryd.f22.name == "runtime.NumGoroutine") = false := by kernel_rfl
theorem nm23 : (Tryd.f23.name == "runtime.NumGoroutine") = false := by kernel_rfl
theorem nm24 : (Tryd.f24.name == "runtime.NumGoroutine") = false := by kernel_rfl
theorem nm25 : (Tryd.f25.name == "runtime.NumGoroutine") = false := by kernel_rfl
theorem nm26 : (Tryd.f26.name == "runtime.NumGoroutine") = false := by kernel_rfl
theorem nm27 : (Tryd.f27.name == "runtime.NumGoroutine") = false := by kernel_rfl
theorem nm28 : (Tryd.f28.name == "runtime.NumGoroutine") = false := by kernel_rfl
theorem nm29 : (Tryd.f29.name == "runtime.NumGoroutine") = false := by kernel_rfl
theorem nm30 : (Tryd.f30.name == "runtime.NumGoroutine") = false := by kernel_rfl
theorem nm31 : (Tryd.f31.name == "runtime.NumGoroutine") = false := by kernel_rfl
theorem nm32 : (Tryd.f32.name == "runtime.NumGoroutine") = false := by kernel_rfl
theorem nm33 : (Tryd.f33.name == "runtime.NumGoroutine") = false := by kernel_rfl
theorem nm34 : (Tryd.f34.name == "runtime.NumGoroutine") = false := by kernel_rfl
theorem nm35 : (Tryd.f35.name == "runtime.NumGoroutine") = false := by kernel_rfl
theorem nm36 : (Tryd.f36.name == "runtime.NumGoroutine") = false := by kernel_rfl
theorem nm37 : (Tryd.f37.name == "runtime.NumGoroutine") = false := by kernel_rfl
theorem nm38 : (Tryd.f38.name == "runtime.NumGoroutine") = false := by kernel_rfl
theorem nm39 : (Tryd.f39.name == "runtime.NumGoroutine") = false := by kernel_rfl
theorem nm40 : (Tryd.f40.name == "runtime.NumGoroutine") = false := by kernel_rfl
theorem nm41 : (Tryd.f41.name == "runtime.NumGoroutine") = false := by kernel_rfl
theorem nm42 : (Tryd.f42.name == "runtime.NumGoroutine") = false := by kernel_rfl
theorem nm43 : (Tryd.f43.name == "runtime.NumGoroutine") = false := by kernel_rfl
theorem nm44 : (Tryd.f44.name == "runtime.NumGoroutine") = false := by kernel_rfl
theorem nm45 : (Tryd.f45.name == "runtime.NumGoroutine") = false := by kernel_rfl
theorem nm46 : (Tryd.f46.name == "runtime.NumGoroutine") = false := by kernel_rfl
theorem nm47 : (Tryd.f47.name == "runtime.NumGoroutine") = false := by kernel_rfl
theorem nm48 : (Tryd.f48.name == "runtime.NumGoroutine") = false := by kernel_rfl
theorem nm49 : (Tryd.f49.name == "runtime.NumGoroutine") = false := by kernel_rfl
theorem nm50 : (Tryd.f50.name == "runtime.NumGoroutine") = false := by kernel_rfl
theorem nm51 : (Tryd.f51.name == "runtime.NumGoroutine") = false := by kernel_rfl
theorem nm52 : (Tryd.f52.name == "runtime.NumGoroutine") = false := by kernel_rfl
theorem nm53 : (Tryd.f53.name == "runtime.NumGoroutine") = false := by kernel_rfl
theorem nm54 : (Tryd.f54.name == "runtime.NumGoroutine") = false := by kernel_rfl
theorem nm55 : (Tryd.f55.name == "runtime.NumGoroutine") = false := by kernel_rfl
theorem nm56 : (Tryd.f56.name == "runtime.NumGoroutine") = false := by kernel_rfl
theorem nm57 : (Tryd.f57.name == "runtime.NumGoroutine") = false := by kernel_rfl
theorem nm58 : (Tryd.f58.name == "runtime.NumGoroutine") = false := by kernel_rfl
theorem nm59 : (Tryd.f59.name == "runtime.NumGoroutine") = false := by kernel_rfl
theorem nm60 : (Tryd.f60.name == "runtime.NumGoroutine") = false := by kernel_rfl
theorem nm61 : (Tryd.f61.name == "runtime.NumGoroutine") = false := by kernel_rfl
theorem nm62 : (Tryd.f62.name == "runtime.NumGoroutine") = false := by kernel_rfl
theorem nm63 : (Tryd.f63.name == "runtime.NumGoroutine") = false := by kernel_rfl
theorem nm64 : (Tryd.f64.name == "runtime.NumGoroutine") = false := by kernel_rfl
theorem nm65 : (Tryd.f65.name == "runtime.NumGoroutine") = false := by kernel_rfl
theorem nm66 : (Tryd.f66.name == "runtime.NumGoroutine") = false := by kernel_rfl
theorem nm67 : (Tryd.f67.name == "runtime.NumGoroutine") = false := by kernel_rfl
theorem nm68 : (Tryd.f68.name == "runtime.NumGoroutine") = false := by kernel_rfl
theorem nm69 : (Tryd.f69.name == "runtime.NumGoroutine") = false := by kernel_rfl
theorem nm70 : (Tryd.f70.name == "runtime.NumGoroutine") = false := by kernel_rfl
theorem nm71 : (Tryd.f71.name == "runtime.NumGoroutine") = false := by kernel_rfl
theorem nm72 : (Tryd.f72.name == "runtime.NumGoroutine") = false := by kernel_rfl
theorem mixed : Tryd.prog.follows .mixedOrders = true := by kernel_rfl
end Go.Proofs.YtfncnpnjhcaphaaDoor
