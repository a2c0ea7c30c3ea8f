/- Closed facts of the translation: sizes of types, places of fields, names of functions. Printed by facts.py. -/
import Derived.Test.YtnjbhhedaloghaaDoorProg
import Derived.Test.YtnjbhhedaloghaaDoorPl
import Derived.KernelRfl
set_option linter.unusedVariables false
namespace Go.Proofs.YtnjbhhedaloghaaDoor
open Go.Sx
theorem sz3 : (Tryd.prog.info? 3).map (·.size) = some 1 := by kernel_rfl
theorem ty3 : Ty Tryd.prog 3 1 false := ⟨sz3, by kernel_rfl⟩
theorem sz4 : (Tryd.prog.info? 4).map (·.size) = some 1 := by kernel_rfl
theorem ty4 : Ty Tryd.prog 4 1 false := ⟨sz4, by kernel_rfl⟩
theorem sz5 : (Tryd.prog.info? 5).map (·.size) = some 1 := by kernel_rfl
theorem ty5 : Ty Tryd.prog 5 1 false := ⟨sz5, by kernel_rfl⟩
theorem sz9 : (Tryd.prog.info? 9).map (·.size) = some 1 := by kernel_rfl
theorem ty9 : Ty Tryd.prog 9 1 false := ⟨sz9, by kernel_rfl⟩
theorem sz29 : (Tryd.prog.info? 29).map (·.size) = some 1 := by kernel_rfl
theorem ty29 : Ty Tryd.prog 29 1 false := ⟨sz29, by kernel_rfl⟩
theorem el29 : El Tryd.prog 29 5 1 1 := ⟨by kernel_rfl, by kernel_rfl, by decide⟩
theorem sz30 : (Tryd.prog.info? 30).map (·.size) = some 1 := by kernel_rfl
theorem ty30 : Ty Tryd.prog 30 1 false := ⟨sz30, by kernel_rfl⟩
theorem sz33 : (Tryd.prog.info? 33).map (·.size) = some 1 := by kernel_rfl
theorem ty33 : Ty Tryd.prog 33 1 false := ⟨sz33, by kernel_rfl⟩
theorem sz35 : (Tryd.prog.info? 35).map (·.size) = some 4 := by kernel_rfl
theorem ty35 : Ty Tryd.prog 35 4 true := ⟨sz35, by kernel_rfl⟩
theorem sz36 : (Tryd.prog.info? 36).map (·.size) = some 1 := by kernel_rfl
theorem ty36 : Ty Tryd.prog 36 1 false := ⟨sz36, by kernel_rfl⟩
theorem sz38 : (Tryd.prog.info? 38).map (·.size) = some 7 := by kernel_rfl
theorem ty38 : Ty Tryd.prog 38 7 true := ⟨sz38, by kernel_rfl⟩
theorem fl38_0 : Fld Tryd.prog 38 0 0 := ⟨_, _, Tryd.underlying38, rfl, rfl, by kernel_rfl⟩
theorem fd38_0 : ∃ fs fd, Tryd.prog.underlying 38 = some (.struct fs) ∧ fs[0]? = some fd ∧ fd.offset = 0 ∧ Ty Tryd.prog fd.type 1 false := ⟨_, _, Tryd.underlying38, rfl, rfl, by kernel_rfl, by kernel_rfl⟩
theorem fl38_1 : Fld Tryd.prog 38 1 1 := ⟨_, _, Tryd.underlying38, rfl, rfl, by kernel_rfl⟩
theorem fd38_1 : ∃ fs fd, Tryd.prog.underlying 38 = some (.struct fs) ∧ fs[1]? = some fd ∧ fd.offset = 1 ∧ Ty Tryd.prog fd.type 1 false := ⟨_, _, Tryd.underlying38, rfl, rfl, by kernel_rfl, by kernel_rfl⟩
theorem fl38_2 : Fld Tryd.prog 38 2 2 := ⟨_, _, Tryd.underlying38, rfl, rfl, by kernel_rfl⟩
theorem fd38_2 : ∃ fs fd, Tryd.prog.underlying 38 = some (.struct fs) ∧ fs[2]? = some fd ∧ fd.offset = 2 ∧ Ty Tryd.prog fd.type 1 false := ⟨_, _, Tryd.underlying38, rfl, rfl, by kernel_rfl, by kernel_rfl⟩
theorem fl38_3 : Fld Tryd.prog 38 3 3 := ⟨_, _, Tryd.underlying38, rfl, rfl, by kernel_rfl⟩
theorem fd38_3 : ∃ fs fd, Tryd.prog.underlying 38 = some (.struct fs) ∧ fs[3]? = some fd ∧ fd.offset = 3 ∧ Ty Tryd.prog fd.type 4 true := ⟨_, _, Tryd.underlying38, rfl, rfl, by kernel_rfl, by kernel_rfl⟩
theorem sz39 : (Tryd.prog.info? 39).map (·.size) = some 32 := by kernel_rfl
theorem ty39 : Ty Tryd.prog 39 32 true := ⟨sz39, by kernel_rfl⟩
theorem sz40 : (Tryd.prog.info? 40).map (·.size) = some 32 := by kernel_rfl
theorem ty40 : Ty Tryd.prog 40 32 true := ⟨sz40, by kernel_rfl⟩
theorem sz41 : (Tryd.prog.info? 41).map (·.size) = some 1024 := by kernel_rfl
theorem ty41 : Ty Tryd.prog 41 1024 true := ⟨sz41, by kernel_rfl⟩
theorem sz43 : (Tryd.prog.info? 43).map (·.size) = some 1049 := by kernel_rfl
theorem ty43 : Ty Tryd.prog 43 1049 true := ⟨sz43, by kernel_rfl⟩
theorem fl43_0 : Fld Tryd.prog 43 0 0 := ⟨_, _, Tryd.underlying43, rfl, rfl, by kernel_rfl⟩
theorem fd43_0 : ∃ fs fd, Tryd.prog.underlying 43 = some (.struct fs) ∧ fs[0]? = some fd ∧ fd.offset = 0 ∧ Ty Tryd.prog fd.type 1 false := ⟨_, _, Tryd.underlying43, rfl, rfl, by kernel_rfl, by kernel_rfl⟩
theorem fl43_1 : Fld Tryd.prog 43 1 1 := ⟨_, _, Tryd.underlying43, rfl, rfl, by kernel_rfl⟩
theorem fd43_1 : ∃ fs fd, Tryd.prog.underlying 43 = some (.struct fs) ∧ fs[1]? = some fd ∧ fd.offset = 1 ∧ Ty Tryd.prog fd.type 1 false := ⟨_, _, Tryd.underlying43, rfl, rfl, by kernel_rfl, by kernel_rfl⟩
theorem fl43_2 : Fld Tryd.prog 43 2 2 := ⟨_, _, Tryd.underlying43, rfl, rfl, by kernel_rfl⟩
theorem fd43_2 : ∃ fs fd, Tryd.prog.underlying 43 = some (.struct fs) ∧ fs[2]? = some fd ∧ fd.offset = 2 ∧ Ty Tryd.prog fd.type 1 false := ⟨_, _, Tryd.underlying43, rfl, rfl, by kernel_rfl, by kernel_rfl⟩
theorem fl43_3 : Fld Tryd.prog 43 3 3 := ⟨_, _, Tryd.underlying43, rfl, rfl, by kernel_rfl⟩
theorem fd43_3 : ∃ fs fd, Tryd.prog.underlying 43 = some (.struct fs) ∧ fs[3]? = some fd ∧ fd.offset = 3 ∧ Ty Tryd.prog fd.type 1 false := ⟨_, _, Tryd.underlying43, rfl, rfl, by kernel_rfl, by kernel_rfl⟩
theorem fl43_4 : Fld Tryd.prog 43 4 4 := ⟨_, _, Tryd.underlying43, rfl, rfl, by kernel_rfl⟩
theorem fd43_4 : ∃ fs fd, Tryd.prog.underlying 43 = some (.struct fs) ∧ fs[4]? = some fd ∧ fd.offset = 4 ∧ Ty Tryd.prog fd.type 1 false := ⟨_, _, Tryd.underlying43, rfl, rfl, by kernel_rfl, by kernel_rfl⟩
theorem fl43_5 : Fld Tryd.prog 43 5 5 := ⟨_, _, Tryd.underlying43, rfl, rfl, by kernel_rfl⟩
theorem fd43_5 : ∃ fs fd, Tryd.prog.underlying 43 = some (.struct fs) ∧ fs[5]? = some fd ∧ fd.offset = 5 ∧ Ty Tryd.prog fd.type 1 false := ⟨_, _, Tryd.underlying43, rfl, rfl, by kernel_rfl, by kernel_rfl⟩
theorem fl43_6 : Fld Tryd.prog 43 6 6 := ⟨_, _, Tryd.underlying43, rfl, rfl, by kernel_rfl⟩
theorem fd43_6 : ∃ fs fd, Tryd.prog.underlying 43 = some (.struct fs) ∧ fs[6]? = some fd ∧ fd.offset = 6 ∧ Ty Tryd.prog fd.type 4 true := ⟨_, _, Tryd.underlying43, rfl, rfl, by kernel_rfl, by kernel_rfl⟩
theorem fl43_7 : Fld Tryd.prog 43 7 10 := ⟨_, _, Tryd.underlying43, rfl, rfl, by kernel_rfl⟩
theorem fd43_7 : ∃ fs fd, Tryd.prog.underlying 43 = some (.struct fs) ∧ fs[7]? = some fd ∧ fd.offset = 10 ∧ Ty Tryd.prog fd.type 7 true := ⟨_, _, Tryd.underlying43, rfl, rfl, by kernel_rfl, by kernel_rfl⟩
theorem fl43_8 : Fld Tryd.prog 43 8 17 := ⟨_, _, Tryd.underlying43, rfl, rfl, by kernel_rfl⟩
theorem fd43_8 : ∃ fs fd, Tryd.prog.underlying 43 = some (.struct fs) ∧ fs[8]? = some fd ∧ fd.offset = 17 ∧ Ty Tryd.prog fd.type 7 true := ⟨_, _, Tryd.underlying43, rfl, rfl, by kernel_rfl, by kernel_rfl⟩
theorem fl43_9 : Fld Tryd.prog 43 9 24 := ⟨_, _, Tryd.underlying43, rfl, rfl, by kernel_rfl⟩
theorem fd43_9 : ∃ fs fd, Tryd.prog.underlying 43 = some (.struct fs) ∧ fs[9]? = some fd ∧ fd.offset = 24 ∧ Ty Tryd.prog fd.type 1 false := ⟨_, _, Tryd.underlying43, rfl, rfl, by kernel_rfl, by kernel_rfl⟩
theorem fl43_10 : Fld Tryd.prog 43 10 25 := ⟨_, _, Tryd.underlying43, rfl, rfl, by kernel_rfl⟩
theorem fd43_10 : ∃ fs fd, Tryd.prog.underlying 43 = some (.struct fs) ∧ fs[10]? = some fd ∧ fd.offset = 25 ∧ Ty Tryd.prog fd.type 1024 true := ⟨_, _, Tryd.underlying43, rfl, rfl, by kernel_rfl, by kernel_rfl⟩
theorem sz44 : (Tryd.prog.info? 44).map (·.size) = some 17 := by kernel_rfl
theorem ty44 : Ty Tryd.prog 44 17 true := ⟨sz44, by kernel_rfl⟩
theorem sz46 : (Tryd.prog.info? 46).map (·.size) = some 1 := by kernel_rfl
theorem ty46 : Ty Tryd.prog 46 1 false := ⟨sz46, by kernel_rfl⟩
theorem el46 : El Tryd.prog 46 9 1 16 := ⟨by kernel_rfl, by kernel_rfl, by decide⟩
theorem sz48 : (Tryd.prog.info? 48).map (·.size) = some 1 := by kernel_rfl
theorem ty48 : Ty Tryd.prog 48 1 false := ⟨sz48, by kernel_rfl⟩
theorem sz50 : (Tryd.prog.info? 50).map (·.size) = some 1 := by kernel_rfl
theorem ty50 : Ty Tryd.prog 50 1 true := ⟨sz50, by kernel_rfl⟩
theorem fl50_0 : Fld Tryd.prog 50 0 0 := ⟨_, _, Tryd.underlying50, rfl, rfl, by kernel_rfl⟩
theorem fd50_0 : ∃ fs fd, Tryd.prog.underlying 50 = some (.struct fs) ∧ fs[0]? = some fd ∧ fd.offset = 0 ∧ Ty Tryd.prog fd.type 1 false := ⟨_, _, Tryd.underlying50, rfl, rfl, by kernel_rfl, by kernel_rfl⟩
theorem bd35 : Bld Tryd.prog 35 [(0, 1), (1, 1), (2, 1), (3, 1)] ((List.replicate 4 (.int .u64 0)) : List Value) := ⟨by kernel_rfl, .inr ⟨_, _, _, Tryd.underlying35, sz33, by kernel_rfl⟩⟩
theorem bd43 : Bld Tryd.prog 43 [(0, 1), (1, 1), (2, 1), (3, 1), (4, 1), (5, 1), (6, 4), (10, 7), (17, 7), (24, 1), (25, 1024)] (([.int .u8 0] ++ [.int .u8 0] ++ [.int .u64 0] ++ [.int .u8 0] ++ [.int .u8 0] ++ [.int .u8 0] ++ (List.replicate 4 (.int .u64 0)) ++ ([.int .u32 0] ++ [.int .u8 0] ++ [.int .u8 0] ++ (List.replicate 4 (.int .u64 0))) ++ ([.int .u32 0] ++ [.int .u8 0] ++ [.int .u8 0] ++ (List.replicate 4 (.int .u64 0))) ++ [.int .u32 0] ++ (List.replicate 32 ((List.replicate 32 (.int .u8 0)))).flatten) : List Value) := ⟨by kernel_rfl, .inl ⟨_, Tryd.underlying43, by kernel_rfl⟩⟩
theorem bd44 : Bld Tryd.prog 44 [(0, 1), (1, 1), (2, 1), (3, 1), (4, 1), (5, 1), (6, 1), (7, 1), (8, 1), (9, 1), (10, 1), (11, 1), (12, 1), (13, 1), (14, 1), (15, 1), (16, 1)] ((List.replicate 17 (.string ⟨#[]⟩)) : List Value) := ⟨by kernel_rfl, .inr ⟨_, _, _, Tryd.underlying44, sz9, by kernel_rfl⟩⟩
theorem bd50 : Bld Tryd.prog 50 [(0, 1)] (([.slice none 0 0]) : List Value) := ⟨by kernel_rfl, .inl ⟨_, Tryd.underlying50, by kernel_rfl⟩⟩
theorem al39 : (Tryd.prog.info? 39).bind (fun i => i.zero.map Value.cells) = some ((bytesV (List.replicate 32 0)) : List Value).toArray := by kernel_rfl
theorem al40 : (Tryd.prog.info? 40).bind (fun i => i.zero.map Value.cells) = some ((bytesV (List.replicate 32 0)) : List Value).toArray := by kernel_rfl
theorem al43 : (Tryd.prog.info? 43).bind (fun i => i.zero.map Value.cells) = some (([.int .u8 0] ++ [.int .u8 0] ++ [.int .u64 0] ++ [.int .u8 0] ++ [.int .u8 0] ++ [.int .u8 0] ++ (intV [0, 0, 0, 0]) ++ ([.int .u32 0] ++ [.int .u8 0] ++ [.int .u8 0] ++ (intV [0, 0, 0, 0])) ++ ([.int .u32 0] ++ [.int .u8 0] ++ [.int .u8 0] ++ (intV [0, 0, 0, 0])) ++ [.int .u32 0] ++ (List.replicate 32 ((bytesV (List.replicate 32 0)))).flatten) : List Value).toArray := by kernel_rfl
theorem nm4 : (Tryd.f4.name == "runtime.NumGoroutine") = false := by kernel_rfl
theorem nm5 : (Tryd.f5.name == "runtime.NumGoroutine") = false := by kernel_rfl
theorem nm6 : (Tryd.f6.name == "runtime.NumGoroutine") = false := by kernel_rfl
theorem nm7 : (Tryd.f7.name == "runtime.NumGoroutine") = false := by kernel_rfl
theorem nm8 : (Tryd.f8.name == "runtime.NumGoroutine") = false := by kernel_rfl
theorem nm9 : (Tryd.f9.name == "runtime.NumGoroutine") = false := by kernel_rfl
theorem nm10 : (Tryd.f10.name == "runtime.NumGoroutine") = false := by kernel_rfl
theorem nm11 : (Tryd.f11.name == "runtime.NumGoroutine") = false := by kernel_rfl
theorem nm12 : (Tryd.f12.name == "runtime.NumGoroutine") = false := by kernel_rfl
theorem nm13 : (Tryd.f13.name == "runtime.NumGoroutine") = false := by kernel_rfl
theorem nm14 : (Tryd.f14.name == "runtime.NumGoroutine") = false := by kernel_rfl
theorem nm15 : (Tryd.f15.name == "runtime.NumGoroutine") = false := by kernel_rfl
theorem nm16 : (Tryd.f16.name == "runtime.NumGoroutine") = false := by kernel_rfl
theorem nm17 : (Tryd.f17.name == "runtime.NumGoroutine") = false := by kernel_rfl
theorem nm18 : (Tryd.f18.name == "runtime.NumGoroutine") = false := by kernel_rfl
theorem nm19 : (Tryd.f19.name == "runtime.NumGoroutine") = false := by kernel_rfl
theorem nm20 : (Tryd.f20.name == "runtime.NumGoroutine") = false := by kernel_rfl
theorem nm21 : (Tryd.f21.name == "runtime.NumGoroutine") = false := by kernel_rfl
theorem nm22 : (Tryd.f22.name == "runtime.NumGoroutine") = false := by kernel_rfl
theorem nm23 : (Tryd.f23.name == "runtime.NumGoroutine") = false := by kernel_rfl
theorem nm24 : (Tryd.f24.name == "runtime.NumGoroutine") = false := by kernel_rfl
theorem nm25 : (Tryd.f25.name == "runtime.NumGoroutine") = false := by kernel_rfl
theorem nm26 : (Tryd.f26.name == "runtime.NumGoroutine") = false := by kernel_rfl
theorem nm27 : (Tryd.f27.name == "runtime.NumGoroutine") = false := by kernel_rfl
theorem mixed : Tryd.prog.follows .mixedOrders = true := by kernel_rfl
end Go.Proofs.YtnjbhhedaloghaaDoor
