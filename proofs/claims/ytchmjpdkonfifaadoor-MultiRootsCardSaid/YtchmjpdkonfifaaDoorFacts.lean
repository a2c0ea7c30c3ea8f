/- Closed facts of the translation: sizes of types, places of fields, names of functions. Printed by facts.py. -/
import Derived.Test.YtchmjpdkonfifaaDoorProg
import Derived.Test.YtchmjpdkonfifaaDoorPl
import Derived.KernelRfl
set_option linter.unusedVariables false
namespace Go.Proofs.YtchmjpdkonfifaaDoor
open Go.Sx
theorem sz3 : (Tryd.prog.info? 3).map (·.size) = some 1 := by kernel_rfl
theorem ty3 : Ty Tryd.prog 3 1 false := ⟨sz3, by kernel_rfl⟩
theorem sz4 : (Tryd.prog.info? 4).map (·.size) = some 1 := by kernel_rfl
theorem ty4 : Ty Tryd.prog 4 1 false := ⟨sz4, by kernel_rfl⟩
theorem sz5 : (Tryd.prog.info? 5).map (·.size) = some 1 := by kernel_rfl
theorem ty5 : Ty Tryd.prog 5 1 false := ⟨sz5, by kernel_rfl⟩
theorem sz9 : (Tryd.prog.info? 9).map (·.size) = some 1 := by kernel_rfl
theorem ty9 : Ty Tryd.prog 9 1 false := ⟨sz9, by kernel_rfl⟩
theorem sz22 : (Tryd.prog.info? 22).map (·.size) = some 1 := by kernel_rfl
theorem ty22 : Ty Tryd.prog 22 1 false := ⟨sz22, by kernel_rfl⟩
theorem el22 : El Tryd.prog 22 95 9 56 := ⟨by kernel_rfl, by kernel_rfl, by decide⟩
theorem sz23 : (Tryd.prog.info? 23).map (·.size) = some 1 := by kernel_rfl
theorem ty23 : Ty Tryd.prog 23 1 false := ⟨sz23, by kernel_rfl⟩
theorem sz25 : (Tryd.prog.info? 25).map (·.size) = some 1 := by kernel_rfl
theorem ty25 : Ty Tryd.prog 25 1 false := ⟨sz25, by kernel_rfl⟩
theorem sz27 : (Tryd.prog.info? 27).map (·.size) = some 1 := by kernel_rfl
theorem ty27 : Ty Tryd.prog 27 1 false := ⟨sz27, by kernel_rfl⟩
theorem el27 : El Tryd.prog 27 50 7 40 := ⟨by kernel_rfl, by kernel_rfl, by decide⟩
theorem sz30 : (Tryd.prog.info? 30).map (·.size) = some 32 := by kernel_rfl
theorem ty30 : Ty Tryd.prog 30 32 true := ⟨sz30, by kernel_rfl⟩
theorem sz31 : (Tryd.prog.info? 31).map (·.size) = some 32 := by kernel_rfl
theorem ty31 : Ty Tryd.prog 31 32 true := ⟨sz31, by kernel_rfl⟩
theorem sz34 : (Tryd.prog.info? 34).map (·.size) = some 1024 := by kernel_rfl
theorem ty34 : Ty Tryd.prog 34 1024 true := ⟨sz34, by kernel_rfl⟩
theorem sz35 : (Tryd.prog.info? 35).map (·.size) = some 1 := by kernel_rfl
theorem ty35 : Ty Tryd.prog 35 1 false := ⟨sz35, by kernel_rfl⟩
theorem sz39 : (Tryd.prog.info? 39).map (·.size) = some 1 := by kernel_rfl
theorem ty39 : Ty Tryd.prog 39 1 false := ⟨sz39, by kernel_rfl⟩
theorem el39 : El Tryd.prog 39 31 32 32 := ⟨by kernel_rfl, by kernel_rfl, by decide⟩
theorem sz44 : (Tryd.prog.info? 44).map (·.size) = some 1 := by kernel_rfl
theorem ty44 : Ty Tryd.prog 44 1 false := ⟨sz44, by kernel_rfl⟩
theorem sz46 : (Tryd.prog.info? 46).map (·.size) = some 1 := by kernel_rfl
theorem ty46 : Ty Tryd.prog 46 1 false := ⟨sz46, by kernel_rfl⟩
theorem sz48 : (Tryd.prog.info? 48).map (·.size) = some 4 := by kernel_rfl
theorem ty48 : Ty Tryd.prog 48 4 true := ⟨sz48, by kernel_rfl⟩
theorem sz50 : (Tryd.prog.info? 50).map (·.size) = some 7 := by kernel_rfl
theorem ty50 : Ty Tryd.prog 50 7 true := ⟨sz50, by kernel_rfl⟩
theorem fl50_0 : Fld Tryd.prog 50 0 0 := ⟨_, _, Tryd.underlying50, rfl, rfl, by kernel_rfl⟩
theorem fd50_0 : ∃ fs fd, Tryd.prog.underlying 50 = some (.struct fs) ∧ fs[0]? = some fd ∧ fd.offset = 0 ∧ Ty Tryd.prog fd.type 1 false := ⟨_, _, Tryd.underlying50, rfl, rfl, by kernel_rfl, by kernel_rfl⟩
theorem fl50_1 : Fld Tryd.prog 50 1 1 := ⟨_, _, Tryd.underlying50, rfl, rfl, by kernel_rfl⟩
theorem fd50_1 : ∃ fs fd, Tryd.prog.underlying 50 = some (.struct fs) ∧ fs[1]? = some fd ∧ fd.offset = 1 ∧ Ty Tryd.prog fd.type 1 false := ⟨_, _, Tryd.underlying50, rfl, rfl, by kernel_rfl, by kernel_rfl⟩
theorem fl50_2 : Fld Tryd.prog 50 2 2 := ⟨_, _, Tryd.underlying50, rfl, rfl, by kernel_rfl⟩
theorem fd50_2 : ∃ fs fd, Tryd.prog.underlying 50 = some (.struct fs) ∧ fs[2]? = some fd ∧ fd.offset = 2 ∧ Ty Tryd.prog fd.type 1 false := ⟨_, _, Tryd.underlying50, rfl, rfl, by kernel_rfl, by kernel_rfl⟩
theorem fl50_3 : Fld Tryd.prog 50 3 3 := ⟨_, _, Tryd.underlying50, rfl, rfl, by kernel_rfl⟩
theorem fd50_3 : ∃ fs fd, Tryd.prog.underlying 50 = some (.struct fs) ∧ fs[3]? = some fd ∧ fd.offset = 3 ∧ Ty Tryd.prog fd.type 4 true := ⟨_, _, Tryd.underlying50, rfl, rfl, by kernel_rfl, by kernel_rfl⟩
theorem sz65 : (Tryd.prog.info? 65).map (·.size) = some 1 := by kernel_rfl
theorem ty65 : Ty Tryd.prog 65 1 false := ⟨sz65, by kernel_rfl⟩
theorem sz67 : (Tryd.prog.info? 67).map (·.size) = some 1 := by kernel_rfl
theorem ty67 : Ty Tryd.prog 67 1 false := ⟨sz67, by kernel_rfl⟩
theorem el67 : El Tryd.prog 67 23 1 8 := ⟨by kernel_rfl, by kernel_rfl, by decide⟩
theorem sz68 : (Tryd.prog.info? 68).map (·.size) = some 1 := by kernel_rfl
theorem ty68 : Ty Tryd.prog 68 1 false := ⟨sz68, by kernel_rfl⟩
theorem sz72 : (Tryd.prog.info? 72).map (·.size) = some 2 := by kernel_rfl
theorem ty72 : Ty Tryd.prog 72 2 true := ⟨sz72, by kernel_rfl⟩
theorem fl72_0 : Fld Tryd.prog 72 0 0 := ⟨_, _, Tryd.underlying72, rfl, rfl, by kernel_rfl⟩
theorem fd72_0 : ∃ fs fd, Tryd.prog.underlying 72 = some (.struct fs) ∧ fs[0]? = some fd ∧ fd.offset = 0 ∧ Ty Tryd.prog fd.type 1 false := ⟨_, _, Tryd.underlying72, rfl, rfl, by kernel_rfl, by kernel_rfl⟩
theorem fl72_1 : Fld Tryd.prog 72 1 1 := ⟨_, _, Tryd.underlying72, rfl, rfl, by kernel_rfl⟩
theorem fd72_1 : ∃ fs fd, Tryd.prog.underlying 72 = some (.struct fs) ∧ fs[1]? = some fd ∧ fd.offset = 1 ∧ Ty Tryd.prog fd.type 1 false := ⟨_, _, Tryd.underlying72, rfl, rfl, by kernel_rfl, by kernel_rfl⟩
theorem sz93 : (Tryd.prog.info? 93).map (·.size) = some 2 := by kernel_rfl
theorem ty93 : Ty Tryd.prog 93 2 true := ⟨sz93, by kernel_rfl⟩
theorem fl93_0 : Fld Tryd.prog 93 0 0 := ⟨_, _, Tryd.underlying93, rfl, rfl, by kernel_rfl⟩
theorem fd93_0 : ∃ fs fd, Tryd.prog.underlying 93 = some (.struct fs) ∧ fs[0]? = some fd ∧ fd.offset = 0 ∧ Ty Tryd.prog fd.type 1 false := ⟨_, _, Tryd.underlying93, rfl, rfl, by kernel_rfl, by kernel_rfl⟩
theorem fl93_1 : Fld Tryd.prog 93 1 1 := ⟨_, _, Tryd.underlying93, rfl, rfl, by kernel_rfl⟩
theorem fd93_1 : ∃ fs fd, Tryd.prog.underlying 93 = some (.struct fs) ∧ fs[1]? = some fd ∧ fd.offset = 1 ∧ Ty Tryd.prog fd.type 1 false := ⟨_, _, Tryd.underlying93, rfl, rfl, by kernel_rfl, by kernel_rfl⟩
theorem sz95 : (Tryd.prog.info? 95).map (·.size) = some 9 := by kernel_rfl
theorem ty95 : Ty Tryd.prog 95 9 true := ⟨sz95, by kernel_rfl⟩
theorem fl95_0 : Fld Tryd.prog 95 0 0 := ⟨_, _, Tryd.underlying95, rfl, rfl, by kernel_rfl⟩
theorem fd95_0 : ∃ fs fd, Tryd.prog.underlying 95 = some (.struct fs) ∧ fs[0]? = some fd ∧ fd.offset = 0 ∧ Ty Tryd.prog fd.type 1 false := ⟨_, _, Tryd.underlying95, rfl, rfl, by kernel_rfl, by kernel_rfl⟩
theorem fl95_1 : Fld Tryd.prog 95 1 1 := ⟨_, _, Tryd.underlying95, rfl, rfl, by kernel_rfl⟩
theorem fd95_1 : ∃ fs fd, Tryd.prog.underlying 95 = some (.struct fs) ∧ fs[1]? = some fd ∧ fd.offset = 1 ∧ Ty Tryd.prog fd.type 7 true := ⟨_, _, Tryd.underlying95, rfl, rfl, by kernel_rfl, by kernel_rfl⟩
theorem fl95_2 : Fld Tryd.prog 95 2 8 := ⟨_, _, Tryd.underlying95, rfl, rfl, by kernel_rfl⟩
theorem fd95_2 : ∃ fs fd, Tryd.prog.underlying 95 = some (.struct fs) ∧ fs[2]? = some fd ∧ fd.offset = 8 ∧ Ty Tryd.prog fd.type 1 false := ⟨_, _, Tryd.underlying95, rfl, rfl, by kernel_rfl, by kernel_rfl⟩
theorem sz98 : (Tryd.prog.info? 98).map (·.size) = some 1056 := by kernel_rfl
theorem ty98 : Ty Tryd.prog 98 1056 true := ⟨sz98, by kernel_rfl⟩
theorem sz102 : (Tryd.prog.info? 102).map (·.size) = some 1 := by kernel_rfl
theorem ty102 : Ty Tryd.prog 102 1 false := ⟨sz102, by kernel_rfl⟩
theorem el102 : El Tryd.prog 102 48 4 32 := ⟨by kernel_rfl, by kernel_rfl, by decide⟩
theorem sz104 : (Tryd.prog.info? 104).map (·.size) = some 1 := by kernel_rfl
theorem ty104 : Ty Tryd.prog 104 1 false := ⟨sz104, by kernel_rfl⟩
theorem el104 : El Tryd.prog 104 3 1 8 := ⟨by kernel_rfl, by kernel_rfl, by decide⟩
theorem sz112 : (Tryd.prog.info? 112).map (·.size) = some 1 := by kernel_rfl
theorem ty112 : Ty Tryd.prog 112 1 false := ⟨sz112, by kernel_rfl⟩
theorem el112 : El Tryd.prog 112 5 1 1 := ⟨by kernel_rfl, by kernel_rfl, by decide⟩
theorem sz115 : (Tryd.prog.info? 115).map (·.size) = some 1 := by kernel_rfl
theorem ty115 : Ty Tryd.prog 115 1 false := ⟨sz115, by kernel_rfl⟩
theorem sz118 : (Tryd.prog.info? 118).map (·.size) = some 1 := by kernel_rfl
theorem ty118 : Ty Tryd.prog 118 1 false := ⟨sz118, by kernel_rfl⟩
theorem sz124 : (Tryd.prog.info? 124).map (·.size) = some 1 := by kernel_rfl
theorem ty124 : Ty Tryd.prog 124 1 false := ⟨sz124, by kernel_rfl⟩
theorem el124 : El Tryd.prog 124 126 33 40 := ⟨by kernel_rfl, by kernel_rfl, by decide⟩
theorem sz126 : (Tryd.prog.info? 126).map (·.size) = some 33 := by kernel_rfl
theorem ty126 : Ty Tryd.prog 126 33 true := ⟨sz126, by kernel_rfl⟩
theorem fl126_0 : Fld Tryd.prog 126 0 0 := ⟨_, _, Tryd.underlying126, rfl, rfl, by kernel_rfl⟩
theorem fd126_0 : ∃ fs fd, Tryd.prog.underlying 126 = some (.struct fs) ∧ fs[0]? = some fd ∧ fd.offset = 0 ∧ Ty Tryd.prog fd.type 1 false := ⟨_, _, Tryd.underlying126, rfl, rfl, by kernel_rfl, by kernel_rfl⟩
theorem fl126_1 : Fld Tryd.prog 126 1 1 := ⟨_, _, Tryd.underlying126, rfl, rfl, by kernel_rfl⟩
theorem fd126_1 : ∃ fs fd, Tryd.prog.underlying 126 = some (.struct fs) ∧ fs[1]? = some fd ∧ fd.offset = 1 ∧ Ty Tryd.prog fd.type 32 true := ⟨_, _, Tryd.underlying126, rfl, rfl, by kernel_rfl, by kernel_rfl⟩
theorem sz128 : (Tryd.prog.info? 128).map (·.size) = some 1 := by kernel_rfl
theorem ty128 : Ty Tryd.prog 128 1 false := ⟨sz128, by kernel_rfl⟩
theorem el128 : El Tryd.prog 128 39 1 24 := ⟨by kernel_rfl, by kernel_rfl, by decide⟩
theorem sz130 : (Tryd.prog.info? 130).map (·.size) = some 2 := by kernel_rfl
theorem ty130 : Ty Tryd.prog 130 2 true := ⟨sz130, by kernel_rfl⟩
theorem fl130_0 : Fld Tryd.prog 130 0 0 := ⟨_, _, Tryd.underlying130, rfl, rfl, by kernel_rfl⟩
theorem fd130_0 : ∃ fs fd, Tryd.prog.underlying 130 = some (.struct fs) ∧ fs[0]? = some fd ∧ fd.offset = 0 ∧ Ty Tryd.prog fd.type 1 false := ⟨_, _, Tryd.underlying130, rfl, rfl, by kernel_rfl, by kernel_rfl⟩
theorem fl130_1 : Fld Tryd.prog 130 1 1 := ⟨_, _, Tryd.underlying130, rfl, rfl, by kernel_rfl⟩
theorem fd130_1 : ∃ fs fd, Tryd.prog.underlying 130 = some (.struct fs) ∧ fs[1]? = some fd ∧ fd.offset = 1 ∧ Ty Tryd.prog fd.type 1 false := ⟨_, _, Tryd.underlying130, rfl, rfl, by kernel_rfl, by kernel_rfl⟩
theorem sz135 : (Tryd.prog.info? 135).map (·.size) = some 1 := by kernel_rfl
theorem ty135 : Ty Tryd.prog 135 1 false := ⟨sz135, by kernel_rfl⟩
theorem el135 : El Tryd.prog 135 9 1 16 := ⟨by kernel_rfl, by kernel_rfl, by decide⟩
theorem sz140 : (Tryd.prog.info? 140).map (·.size) = some 1 := by kernel_rfl
theorem ty140 : Ty Tryd.prog 140 1 false := ⟨sz140, by kernel_rfl⟩
theorem sz142 : (Tryd.prog.info? 142).map (·.size) = some 1 := by kernel_rfl
theorem ty142 : Ty Tryd.prog 142 1 true := ⟨sz142, by kernel_rfl⟩
theorem fl142_0 : Fld Tryd.prog 142 0 0 := ⟨_, _, Tryd.underlying142, rfl, rfl, by kernel_rfl⟩
theorem fd142_0 : ∃ fs fd, Tryd.prog.underlying 142 = some (.struct fs) ∧ fs[0]? = some fd ∧ fd.offset = 0 ∧ Ty Tryd.prog fd.type 1 false := ⟨_, _, Tryd.underlying142, rfl, rfl, by kernel_rfl, by kernel_rfl⟩
theorem sz152 : (Tryd.prog.info? 152).map (·.size) = some 1 := by kernel_rfl
theorem ty152 : Ty Tryd.prog 152 1 false := ⟨sz152, by kernel_rfl⟩
theorem sz153 : (Tryd.prog.info? 153).map (·.size) = some 1 := by kernel_rfl
theorem ty153 : Ty Tryd.prog 153 1 false := ⟨sz153, by kernel_rfl⟩
theorem el153 : El Tryd.prog 153 112 1 24 := ⟨by kernel_rfl, by kernel_rfl, by decide⟩
theorem sz162 : (Tryd.prog.info? 162).map (·.size) = some 1 := by kernel_rfl
theorem ty162 : Ty Tryd.prog 162 1 false := ⟨sz162, by kernel_rfl⟩
theorem sz164 : (Tryd.prog.info? 164).map (·.size) = some 8 := by kernel_rfl
theorem ty164 : Ty Tryd.prog 164 8 true := ⟨sz164, by kernel_rfl⟩
theorem sz165 : (Tryd.prog.info? 165).map (·.size) = some 64 := by kernel_rfl
theorem ty165 : Ty Tryd.prog 165 64 true := ⟨sz165, by kernel_rfl⟩
theorem sz170 : (Tryd.prog.info? 170).map (·.size) = some 1 := by kernel_rfl
theorem ty170 : Ty Tryd.prog 170 1 false := ⟨sz170, by kernel_rfl⟩
theorem sz178 : (Tryd.prog.info? 178).map (·.size) = some 1 := by kernel_rfl
theorem ty178 : Ty Tryd.prog 178 1 false := ⟨sz178, by kernel_rfl⟩
theorem sz189 : (Tryd.prog.info? 189).map (·.size) = some 10 := by kernel_rfl
theorem ty189 : Ty Tryd.prog 189 10 true := ⟨sz189, by kernel_rfl⟩
theorem fl189_0 : Fld Tryd.prog 189 0 0 := ⟨_, _, Tryd.underlying189, rfl, rfl, by kernel_rfl⟩
theorem fd189_0 : ∃ fs fd, Tryd.prog.underlying 189 = some (.struct fs) ∧ fs[0]? = some fd ∧ fd.offset = 0 ∧ Ty Tryd.prog fd.type 8 true := ⟨_, _, Tryd.underlying189, rfl, rfl, by kernel_rfl, by kernel_rfl⟩
theorem fl189_1 : Fld Tryd.prog 189 1 8 := ⟨_, _, Tryd.underlying189, rfl, rfl, by kernel_rfl⟩
theorem fd189_1 : ∃ fs fd, Tryd.prog.underlying 189 = some (.struct fs) ∧ fs[1]? = some fd ∧ fd.offset = 8 ∧ Ty Tryd.prog fd.type 1 false := ⟨_, _, Tryd.underlying189, rfl, rfl, by kernel_rfl, by kernel_rfl⟩
theorem fl189_2 : Fld Tryd.prog 189 2 9 := ⟨_, _, Tryd.underlying189, rfl, rfl, by kernel_rfl⟩
theorem fd189_2 : ∃ fs fd, Tryd.prog.underlying 189 = some (.struct fs) ∧ fs[2]? = some fd ∧ fd.offset = 9 ∧ Ty Tryd.prog fd.type 1 false := ⟨_, _, Tryd.underlying189, rfl, rfl, by kernel_rfl, by kernel_rfl⟩
theorem sz191 : (Tryd.prog.info? 191).map (·.size) = some 1 := by kernel_rfl
theorem ty191 : Ty Tryd.prog 191 1 false := ⟨sz191, by kernel_rfl⟩
theorem sz194 : (Tryd.prog.info? 194).map (·.size) = some 1 := by kernel_rfl
theorem ty194 : Ty Tryd.prog 194 1 false := ⟨sz194, by kernel_rfl⟩
theorem bd31 : Bld Tryd.prog 31 [(0, 1), (1, 1), (2, 1), (3, 1), (4, 1), (5, 1), (6, 1), (7, 1), (8, 1), (9, 1), (10, 1), (11, 1), (12, 1), (13, 1), (14, 1), (15, 1), (16, 1), (17, 1), (18, 1), (19, 1), (20, 1), (21, 1), (22, 1), (23, 1), (24, 1), (25, 1), (26, 1), (27, 1), (28, 1), (29, 1), (30, 1), (31, 1)] ((List.replicate 32 (.int .u8 0)) : List Value) := ⟨by kernel_rfl, .inr ⟨_, _, _, Tryd.underlying31, sz5, by kernel_rfl⟩⟩
theorem bd34 : Bld Tryd.prog 34 [(0, 32), (32, 32), (64, 32), (96, 32), (128, 32), (160, 32), (192, 32), (224, 32), (256, 32), (288, 32), (320, 32), (352, 32), (384, 32), (416, 32), (448, 32), (480, 32), (512, 32), (544, 32), (576, 32), (608, 32), (640, 32), (672, 32), (704, 32), (736, 32), (768, 32), (800, 32), (832, 32), (864, 32), (896, 32), (928, 32), (960, 32), (992, 32)] ((List.replicate 32 ((List.replicate 32 (.int .u8 0)))).flatten : List Value) := ⟨by kernel_rfl, .inr ⟨_, _, _, Tryd.underlying34, sz31, by kernel_rfl⟩⟩
theorem bd48 : Bld Tryd.prog 48 [(0, 1), (1, 1), (2, 1), (3, 1)] ((List.replicate 4 (.int .u64 0)) : List Value) := ⟨by kernel_rfl, .inr ⟨_, _, _, Tryd.underlying48, sz23, by kernel_rfl⟩⟩
theorem bd50 : Bld Tryd.prog 50 [(0, 1), (1, 1), (2, 1), (3, 4)] (([.int .u32 0] ++ [.int .u8 0] ++ [.int .u8 0] ++ (List.replicate 4 (.int .u64 0))) : List Value) := ⟨by kernel_rfl, .inl ⟨_, Tryd.underlying50, by kernel_rfl⟩⟩
theorem bd72 : Bld Tryd.prog 72 [(0, 1), (1, 1)] (([.slice none 0 0] ++ [.slice none 0 0]) : List Value) := ⟨by kernel_rfl, .inl ⟨_, Tryd.underlying72, by kernel_rfl⟩⟩
theorem bd93 : Bld Tryd.prog 93 [(0, 1), (1, 1)] (([.slice none 0 0] ++ [.pointer none]) : List Value) := ⟨by kernel_rfl, .inl ⟨_, Tryd.underlying93, by kernel_rfl⟩⟩
theorem bd126 : Bld Tryd.prog 126 [(0, 1), (1, 32)] (([.int .u64 0] ++ (List.replicate 32 (.int .u8 0))) : List Value) := ⟨by kernel_rfl, .inl ⟨_, Tryd.underlying126, by kernel_rfl⟩⟩
theorem bd130 : Bld Tryd.prog 130 [(0, 1), (1, 1)] (([.slice none 0 0] ++ [.slice none 0 0]) : List Value) := ⟨by kernel_rfl, .inl ⟨_, Tryd.underlying130, by kernel_rfl⟩⟩
theorem bd142 : Bld Tryd.prog 142 [(0, 1)] (([.slice none 0 0]) : List Value) := ⟨by kernel_rfl, .inl ⟨_, Tryd.underlying142, by kernel_rfl⟩⟩
theorem bd164 : Bld Tryd.prog 164 [(0, 1), (1, 1), (2, 1), (3, 1), (4, 1), (5, 1), (6, 1), (7, 1)] ((List.replicate 8 (.int .u32 0)) : List Value) := ⟨by kernel_rfl, .inr ⟨_, _, _, Tryd.underlying164, sz46, by kernel_rfl⟩⟩
theorem bd165 : Bld Tryd.prog 165 [(0, 1), (1, 1), (2, 1), (3, 1), (4, 1), (5, 1), (6, 1), (7, 1), (8, 1), (9, 1), (10, 1), (11, 1), (12, 1), (13, 1), (14, 1), (15, 1), (16, 1), (17, 1), (18, 1), (19, 1), (20, 1), (21, 1), (22, 1), (23, 1), (24, 1), (25, 1), (26, 1), (27, 1), (28, 1), (29, 1), (30, 1), (31, 1), (32, 1), (33, 1), (34, 1), (35, 1), (36, 1), (37, 1), (38, 1), (39, 1), (40, 1), (41, 1), (42, 1), (43, 1), (44, 1), (45, 1), (46, 1), (47, 1), (48, 1), (49, 1), (50, 1), (51, 1), (52, 1), (53, 1), (54, 1), (55, 1), (56, 1), (57, 1), (58, 1), (59, 1), (60, 1), (61, 1), (62, 1), (63, 1)] ((List.replicate 64 (.int .u32 0)) : List Value) := ⟨by kernel_rfl, .inr ⟨_, _, _, Tryd.underlying165, sz46, by kernel_rfl⟩⟩
theorem bd189 : Bld Tryd.prog 189 [(0, 8), (8, 1), (9, 1)] (((List.replicate 8 (.int .u32 0)) ++ [.slice none 0 0] ++ [.int .u64 0]) : List Value) := ⟨by kernel_rfl, .inl ⟨_, Tryd.underlying189, by kernel_rfl⟩⟩
theorem al3 : (Tryd.prog.info? 3).bind (fun i => i.zero.map Value.cells) = some ([.int .i64 0] : List Value).toArray := by kernel_rfl
theorem al4 : (Tryd.prog.info? 4).bind (fun i => i.zero.map Value.cells) = some ([.bool false] : List Value).toArray := by kernel_rfl
theorem al25 : (Tryd.prog.info? 25).bind (fun i => i.zero.map Value.cells) = some ([.pointer none] : List Value).toArray := by kernel_rfl
theorem al27 : (Tryd.prog.info? 27).bind (fun i => i.zero.map Value.cells) = some ([.slice none 0 0] : List Value).toArray := by kernel_rfl
theorem al30 : (Tryd.prog.info? 30).bind (fun i => i.zero.map Value.cells) = some ((bytesV (List.replicate 32 0)) : List Value).toArray := by kernel_rfl
theorem al31 : (Tryd.prog.info? 31).bind (fun i => i.zero.map Value.cells) = some ((bytesV (List.replicate 32 0)) : List Value).toArray := by kernel_rfl
theorem al34 : (Tryd.prog.info? 34).bind (fun i => i.zero.map Value.cells) = some ((List.replicate 32 ((bytesV (List.replicate 32 0)))).flatten : List Value).toArray := by kernel_rfl
theorem al39 : (Tryd.prog.info? 39).bind (fun i => i.zero.map Value.cells) = some ([.slice none 0 0] : List Value).toArray := by kernel_rfl
theorem al48 : (Tryd.prog.info? 48).bind (fun i => i.zero.map Value.cells) = some ((intV [0, 0, 0, 0]) : List Value).toArray := by kernel_rfl
theorem al50 : (Tryd.prog.info? 50).bind (fun i => i.zero.map Value.cells) = some (([.int .u32 0] ++ [.int .u8 0] ++ [.int .u8 0] ++ (intV [0, 0, 0, 0])) : List Value).toArray := by kernel_rfl
theorem al72 : (Tryd.prog.info? 72).bind (fun i => i.zero.map Value.cells) = some (([.slice none 0 0] ++ [.slice none 0 0]) : List Value).toArray := by kernel_rfl
theorem al95 : (Tryd.prog.info? 95).bind (fun i => i.zero.map Value.cells) = some (([.int .u8 0] ++ ([.int .u32 0] ++ [.int .u8 0] ++ [.int .u8 0] ++ (intV [0, 0, 0, 0])) ++ [.int .u64 0]) : List Value).toArray := by kernel_rfl
theorem al98 : (Tryd.prog.info? 98).bind (fun i => i.zero.map Value.cells) = some ((List.replicate 33 ((bytesV (List.replicate 32 0)))).flatten : List Value).toArray := by kernel_rfl
theorem al126 : (Tryd.prog.info? 126).bind (fun i => i.zero.map Value.cells) = some (([.int .u64 0] ++ (bytesV (List.replicate 32 0))) : List Value).toArray := by kernel_rfl
theorem al164 : (Tryd.prog.info? 164).bind (fun i => i.zero.map Value.cells) = some ((List.replicate 8 (.int .u32 0)) : List Value).toArray := by kernel_rfl
theorem al165 : (Tryd.prog.info? 165).bind (fun i => i.zero.map Value.cells) = some ((List.replicate 64 (.int .u32 0)) : List Value).toArray := by kernel_rfl
theorem al191 : (Tryd.prog.info? 191).bind (fun i => i.zero.map Value.cells) = some ([.int .u64 0] : List Value).toArray := by kernel_rfl
theorem nm10 : (Tryd.f10.name == "runtime.NumGoroutine") = false := by kernel_rfl
theorem nm11 : (Tryd.f11.name == "runtime.NumGoroutine") = false := by kernel_rfl
theorem nm12 : (Tryd.f12.name == "runtime.NumGoroutine") = false := by kernel_rfl
theorem nm13 : (Tryd.f13.name == "runtime.NumGoroutine") = false := by kernel_rfl
theorem nm14 : (Tryd.f14.name == "runtime.NumGoroutine") = false := by kernel_rfl
theorem nm15 : (Tryd.f15.name == "runtime.NumGoroutine") = false := by kernel_rfl
theorem nm16 : (Tryd.f16.name == "runtime.NumGoroutine") = false := by kernel_rfl
theorem nm17 : (Tryd.f17.name == "runtime.NumGoroutine") = false := by kernel_rfl
theorem nm18 : (Tryd.f18.name == "runtime.NumGoroutine") = false := by kernel_rfl
theorem nm19 : (Tryd.f19.name == "runtime.NumGoroutine") = false := by kernel_rfl
theorem nm20 : (Tryd.f20.name == "runtime.NumGoroutine") = false := by kernel_rfl
theorem nm21 : (Tryd.f21.name == "runtime.NumGoroutine") = false := by kernel_rfl
theorem nm23 : (Tryd.f23.name == "runtime.NumGoroutine") = false := by kernel_rfl
theorem nm24 : (Tryd.f24.name == "runtime.NumGoroutine") = false := by kernel_rfl
theorem nm25 : (Tryd.f25.name == "runtime.NumGoroutine") = false := by kernel_rfl
theorem nm26 : (Tryd.f26.name == "runtime.NumGoroutine") = false := by kernel_rfl
theorem nm27 : (Tryd.f27.name == "runtime.NumGoroutine") = false := by kernel_rfl
theorem nm28 : (Tryd.f28.name == "runtime.NumGoroutine") = false := by kernel_rfl
theorem nm29 : (Tryd.f29.name == "runtime.NumGoroutine") = false := by kernel_rfl
theorem nm30 : (Tryd.f30.name == "runtime.NumGoroutine") = false := by kernel_rfl
theorem nm31 : (Tryd.f31.name == "runtime.NumGoroutine") = false := by kernel_rfl
theorem nm32 : (Tryd.f32.name == "runtime.NumGoroutine") = false := by kernel_rfl
theorem nm33 : (Tryd.f33.name == "runtime.NumGoroutine") = false := by kernel_rfl
theorem nm34 : (Tryd.f34.name == "runtime.NumGoroutine") = false := by kernel_rfl
theorem nm35 : (Tryd.f35.name == "runtime.NumGoroutine") = false := by kernel_rfl
theorem nm36 : (Tryd.f36.name == "runtime.NumGoroutine") = false := by kernel_rfl
theorem nm37 : (Tryd.f37.name == "runtime.NumGoroutine") = false := by kernel_rfl
theorem nm38 : (Tryd.f38.name == "runtime.NumGoroutine") = false := by kernel_rfl
theorem nm39 : (Tryd.f39.name == "runtime.NumGoroutine") = false := by kernel_rfl
theorem nm40 : (Tryd.f40.name == "runtime.NumGoroutine") = false := by kernel_rfl
theorem nm41 : (Tryd.f41.name == "runtime.NumGoroutine") = false := by kernel_rfl
theorem nm42 : (Tryd.f42.name == "runtime.NumGoroutine") = false := by kernel_rfl
theorem nm43 : (Tryd.f43.name == "runtime.NumGoroutine") = false := by kernel_rfl
theorem nm44 : (Tryd.f44.name == "runtime.NumGoroutine") = false := by kernel_rfl
theorem nm45 : (Tryd.f45.name == "runtime.NumGoroutine") = false := by kernel_rfl
theorem nm46 : (Tryd.f46.name == "runtime.NumGoroutine") = false := by kernel_rfl
theorem nm47 : (Tryd.f47.name == "runtime.NumGoroutine") = false := by kernel_rfl
theorem nm48 : (Tryd.f48.name == "runtime.NumGoroutine") = false := by kernel_rfl
theorem nm49 : (Tryd.f49.name == "runtime.NumGoroutine") = false := by kernel_rfl
theorem nm50 : (Tryd.f50.name == "runtime.NumGoroutine") = false := by kernel_rfl
theorem nm51 : (Tryd.f51.name == "runtime.NumGoroutine") = false := by kernel_rfl
theorem nm52 : (Tryd.f52.name == "runtime.NumGoroutine") = false := by kernel_rfl
theorem nm53 : (Tryd.f53.name == "runtime.NumGoroutine") = false := by kernel_rfl
theorem nm54 : (Tryd.f54.name == "runtime.NumGoroutine") = false := by kernel_rfl
theorem nm55 : (Tryd.f55.name == "runtime.NumGoroutine") = false := by kernel_rfl
theorem nm56 : (Tryd.f56.name == "runtime.NumGoroutine") = false := by kernel_rfl
theorem nm57 : (Tryd.f57.name == "runtime.NumGoroutine") = false := by kernel_rfl
theorem nm58 : (Tryd.f58.name == "runtime.NumGoroutine") = false := by kernel_rfl
theorem nm59 : (Tryd.f59.name == "runtime.NumGoroutine") = false := by kernel_rfl
theorem nm60 : (Tryd.f60.name == "runtime.NumGoroutine") = false := by kernel_rfl
theorem nm61 : (Tryd.f61.name == "runtime.NumGoroutine") = false := by kernel_rfl
theorem nm63 : (Tryd.f63.name == "runtime.NumGoroutine") = false := by kernel_rfl
theorem nm64 : (Tryd.f64.name == "runtime.NumGoroutine") = false := by kernel_rfl
theorem nm66 : (Tryd.f66.name == "runtime.NumGoroutine") = false := by kernel_rfl
theorem nm69 : (Tryd.f69.name == "runtime.NumGoroutine") = false := by kernel_rfl
theorem nm70 : (Tryd.f70.name == "runtime.NumGoroutine") = false := by kernel_rfl
theorem nm71 : (Tryd.f71.name == "runtime.NumGoroutine") = false := by kernel_rfl
theorem nm74 : (Tryd.f74.name == "runtime.NumGoroutine") = false := by kernel_rfl
theorem nm75 : (Tryd.f75.name == "runtime.NumGoroutine") = false := by kernel_rfl
theorem nm76 : (Tryd.f76.name == "runtime.NumGoroutine") = false := by kernel_rfl
theorem nm77 : (Tryd.f77.name == "runtime.NumGoroutine") = false := by kernel_rfl
theorem nm78 : (Tryd.f78.name == "runtime.NumGoroutine") = false := by kernel_rfl
theorem nm79 : (Tryd.f79.name == "runtime.NumGoroutine") = false := by kernel_rfl
theorem nm80 : (Tryd.f80.name == "runtime.NumGoroutine") = false := by kernel_rfl
theorem nm82 : (Tryd.f82.name == "runtime.NumGoroutine") = false := by kernel_rfl
theorem nm83 : (Tryd.f83.name == "runtime.NumGoroutine") = false := by kernel_rfl
theorem nm84 : (Tryd.f84.name == "runtime.NumGoroutine") = false := by kernel_rfl
theorem nm85 : (Tryd.f85.name == "runtime.NumGoroutine") = false := by kernel_rfl
theorem nm86 : (Tryd.f86.name == "runtime.NumGoroutine") = false := by kernel_rfl
theorem nm87 : (Tryd.f87.name == "runtime.NumGoroutine") = false := by kernel_rfl
theorem nm88 : (Tryd.f88.name == "runtime.NumGoroutine") = false := by kernel_rfl
theorem nm89 : (Tryd.f89.name == "runtime.NumGoroutine") = false := by kernel_rfl
theorem nm90 : (Tryd.f90.name == "runtime.NumGoroutine") = false := by kernel_rfl
theorem nm91 : (Tryd.f91.name == "runtime.NumGoroutine") = false := by kernel_rfl
theorem nm93 : (Tryd.f93.name == "runtime.NumGoroutine") = false := by kernel_rfl
theorem nm94 : (Tryd.f94.name == "runtime.NumGoroutine") = false := by kernel_rfl
theorem nm95 : (Tryd.f95.name == "runtime.NumGoroutine") = false := by kernel_rfl
theorem nm96 : (Tryd.f96.name == "runtime.NumGoroutine") = false := by kernel_rfl
theorem nm97 : (Tryd.f97.name == "runtime.NumGoroutine") = false := by kernel_rfl
theorem nm98 : (Tryd.f98.name == "runtime.NumGoroutine") = false := by kernel_rfl
theorem nm100 : (Tryd.f100.name == "runtime.NumGoroutine") = false := by kernel_rfl
theorem nm101 : (Tryd.f101.name == "runtime.NumGoroutine") = false := by kernel_rfl
theorem nm102 : (Tryd.f102.name == "runtime.NumGoroutine") = false := by kernel_rfl
theorem nm103 : (Tryd.f103.name == "runtime.NumGoroutine") = false := by kernel_rfl
theorem nm104 : (Tryd.f104.name == "runtime.NumGoroutine") = false := by kernel_rfl
theorem nm105 : (Tryd.f105.name == "runtime.NumGoroutine") = false := by kernel_rfl
theorem nm106 : (Tryd.f106.name == "runtime.NumGoroutine") = false := by kernel_rfl
theorem nm107 : (Tryd.f107.name == "runtime.NumGoroutine") = false := by kernel_rfl
theorem nm108 : (Tryd.f108.name == "runtime.NumGoroutine") = false := by kernel_rfl
theorem nm109 : (Tryd.f109.name == "runtime.NumGoroutine") = false := by kernel_rfl
theorem nm110 : (Tryd.f110.name == "runtime.NumGoroutine") = false := by kernel_rfl
theorem nm111 : (Tryd.f111.name == "runtime.NumGoroutine") = false := by kernel_rfl
theorem nm112 : (Tryd.f112.name == "runtime.NumGoroutine") = false := by kernel_rfl
theorem nm113 : (Tryd.f113.name == "runtime.NumGoroutine") = false := by kernel_rfl
theorem nm114 : (Tryd.f114.name == "runtime.NumGoroutine") = false := by kernel_rfl
theorem nm115 : (Tryd.f115.name == "runtime.NumGoroutine") = false := by kernel_rfl
theorem nm116 : (Tryd.f116.name == "runtime.NumGoroutine") = false := by kernel_rfl
theorem nm117 : (Tryd.f117.name == "runtime.NumGoroutine") = false := by kernel_rfl
theorem nm118 : (Tryd.f118.name == "runtime.NumGoroutine") = false := by kernel_rfl
theorem nm119 : (Tryd.f119.name == "runtime.NumGoroutine") = false := by kernel_rfl
theorem nm120 : (Tryd.f120.name == "runtime.NumGoroutine") = false := by kernel_rfl
theorem nm121 : (Tryd.f121.name == "runtime.NumGoroutine") = false := by kernel_rfl
theorem nm122 : (Tryd.f122.name == "runtime.NumGoroutine") = false := by kernel_rfl
theorem nm123 : (Tryd.f123.name == "runtime.NumGoroutine") = false := by kernel_rfl
theorem nm124 : (Tryd.f124.name == "runtime.NumGoroutine") = false := by kernel_rfl
theorem nm125 : (Tryd.f125.name == "runtime.NumGoroutine") = false := by kernel_rfl
theorem nm126 : (Tryd.f126.name == "runtime.NumGoroutine") = false := by kernel_rfl
theorem nm127 : (Tryd.f127.name == "runtime.NumGoroutine") = false := by kernel_rfl
theorem nm128 : (Tryd.f128.name == "runtime.NumGoroutine") = false := by kernel_rfl
theorem nm129 : (Tryd.f129.name == "runtime.NumGoroutine") = false := by kernel_rfl
theorem nm130 : (Tryd.f130.name == "runtime.NumGoroutine") = false := by kernel_rfl
theorem nm131 : (Tryd.f131.name == "runtime.NumGoroutine") = false := by kernel_rfl
theorem nm132 : (Tryd.f132.name == "runtime.NumGoroutine") = false := by kernel_rfl
theorem nm133 : (Tryd.f133.name == "runtime.NumGoroutine") = false := by kernel_rfl
theorem nm134 : (Tryd.f134.name == "runtime.NumGoroutine") = false := by kernel_rfl
theorem nm135 : (Tryd.f135.name == "runtime.NumGoroutine") = false := by kernel_rfl
theorem nm136 : (Tryd.f136.name == "runtime.NumGoroutine") = false := by kernel_rfl
theorem nm137 : (Tryd.f137.name == "runtime.NumGoroutine") = false := by kernel_rfl
theorem nm138 : (Tryd.f138.name == "runtime.NumGoroutine") = false := by kernel_rfl
theorem nm139 : (Tryd.f139.name == "runtime.NumGoroutine") = false := by kernel_rfl
theorem nm140 : (Tryd.f140.name == "runtime.NumGoroutine") = false := by kernel_rfl
theorem mixed : Tryd.prog.follows .mixedOrders = true := by kernel_rfl
end Go.Proofs.YtchmjpdkonfifaaDoor
