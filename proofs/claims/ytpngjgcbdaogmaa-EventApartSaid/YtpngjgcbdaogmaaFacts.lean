/- Closed facts of the translation: sizes of types, places of fields, names of functions. Printed by facts.py. -/
import Derived.Test.YtpngjgcbdaogmaaProg
import Derived.Test.YtpngjgcbdaogmaaPl
import Derived.KernelRfl
set_option linter.unusedVariables false
namespace Go.Proofs.Ytpngjgcbdaogmaa
open Go.Sx
theorem sz3 : (Try.prog.info? 3).map (·.size) = some 1 := by kernel_rfl
theorem ty3 : Ty Try.prog 3 1 false := ⟨sz3, by kernel_rfl⟩
theorem sz4 : (Try.prog.info? 4).map (·.size) = some 1 := by kernel_rfl
theorem ty4 : Ty Try.prog 4 1 false := ⟨sz4, by kernel_rfl⟩
theorem sz5 : (Try.prog.info? 5).map (·.size) = some 1 := by kernel_rfl
theorem ty5 : Ty Try.prog 5 1 false := ⟨sz5, by kernel_rfl⟩
theorem sz9 : (Try.prog.info? 9).map (·.size) = some 1 := by kernel_rfl
theorem ty9 : Ty Try.prog 9 1 false := ⟨sz9, by kernel_rfl⟩
theorem sz22 : (Try.prog.info? 22).map (·.size) = some 1 := by kernel_rfl
theorem ty22 : Ty Try.prog 22 1 false := ⟨sz22, by kernel_rfl⟩
theorem el22 : El Try.prog 22 25 1 24 := ⟨by kernel_rfl, by kernel_rfl, by decide⟩
theorem sz25 : (Try.prog.info? 25).map (·.size) = some 1 := by kernel_rfl
theorem ty25 : Ty Try.prog 25 1 false := ⟨sz25, by kernel_rfl⟩
theorem el25 : El Try.prog 25 5 1 1 := ⟨by kernel_rfl, by kernel_rfl, by decide⟩
theorem sz28 : (Try.prog.info? 28).map (·.size) = some 1 := by kernel_rfl
theorem ty28 : Ty Try.prog 28 1 false := ⟨sz28, by kernel_rfl⟩
theorem el28 : El Try.prog 28 39 41 120 := ⟨by kernel_rfl, by kernel_rfl, by decide⟩
theorem sz30 : (Try.prog.info? 30).map (·.size) = some 1 := by kernel_rfl
theorem ty30 : Ty Try.prog 30 1 false := ⟨sz30, by kernel_rfl⟩
theorem sz32 : (Try.prog.info? 32).map (·.size) = some 1 := by kernel_rfl
theorem ty32 : Ty Try.prog 32 1 true := ⟨sz32, by kernel_rfl⟩
theorem fl32_0 : Fld Try.prog 32 0 0 := ⟨_, _, Try.underlying32, rfl, rfl, by kernel_rfl⟩
theorem fd32_0 : ∃ fs fd, Try.prog.underlying 32 = some (.struct fs) ∧ fs[0]? = some fd ∧ fd.offset = 0 ∧ Ty Try.prog fd.type 1 false := ⟨_, _, Try.underlying32, rfl, rfl, by kernel_rfl, by kernel_rfl⟩
theorem sz33 : (Try.prog.info? 33).map (·.size) = some 1 := by kernel_rfl
theorem ty33 : Ty Try.prog 33 1 false := ⟨sz33, by kernel_rfl⟩
theorem sz35 : (Try.prog.info? 35).map (·.size) = some 4 := by kernel_rfl
theorem ty35 : Ty Try.prog 35 4 true := ⟨sz35, by kernel_rfl⟩
theorem sz36 : (Try.prog.info? 36).map (·.size) = some 32 := by kernel_rfl
theorem ty36 : Ty Try.prog 36 32 true := ⟨sz36, by kernel_rfl⟩
theorem sz37 : (Try.prog.info? 37).map (·.size) = some 32 := by kernel_rfl
theorem ty37 : Ty Try.prog 37 32 true := ⟨sz37, by kernel_rfl⟩
theorem sz39 : (Try.prog.info? 39).map (·.size) = some 41 := by kernel_rfl
theorem ty39 : Ty Try.prog 39 41 true := ⟨sz39, by kernel_rfl⟩
theorem fl39_0 : Fld Try.prog 39 0 0 := ⟨_, _, Try.underlying39, rfl, rfl, by kernel_rfl⟩
theorem fd39_0 : ∃ fs fd, Try.prog.underlying 39 = some (.struct fs) ∧ fs[0]? = some fd ∧ fd.offset = 0 ∧ Ty Try.prog fd.type 1 false := ⟨_, _, Try.underlying39, rfl, rfl, by kernel_rfl, by kernel_rfl⟩
theorem fl39_1 : Fld Try.prog 39 1 1 := ⟨_, _, Try.underlying39, rfl, rfl, by kernel_rfl⟩
theorem fd39_1 : ∃ fs fd, Try.prog.underlying 39 = some (.struct fs) ∧ fs[1]? = some fd ∧ fd.offset = 1 ∧ Ty Try.prog fd.type 1 false := ⟨_, _, Try.underlying39, rfl, rfl, by kernel_rfl, by kernel_rfl⟩
theorem fl39_2 : Fld Try.prog 39 2 2 := ⟨_, _, Try.underlying39, rfl, rfl, by kernel_rfl⟩
theorem fd39_2 : ∃ fs fd, Try.prog.underlying 39 = some (.struct fs) ∧ fs[2]? = some fd ∧ fd.offset = 2 ∧ Ty Try.prog fd.type 4 true := ⟨_, _, Try.underlying39, rfl, rfl, by kernel_rfl, by kernel_rfl⟩
theorem fl39_3 : Fld Try.prog 39 3 6 := ⟨_, _, Try.underlying39, rfl, rfl, by kernel_rfl⟩
theorem fd39_3 : ∃ fs fd, Try.prog.underlying 39 = some (.struct fs) ∧ fs[3]? = some fd ∧ fd.offset = 6 ∧ Ty Try.prog fd.type 32 true := ⟨_, _, Try.underlying39, rfl, rfl, by kernel_rfl, by kernel_rfl⟩
theorem fl39_4 : Fld Try.prog 39 4 38 := ⟨_, _, Try.underlying39, rfl, rfl, by kernel_rfl⟩
theorem fd39_4 : ∃ fs fd, Try.prog.underlying 39 = some (.struct fs) ∧ fs[4]? = some fd ∧ fd.offset = 38 ∧ Ty Try.prog fd.type 1 false := ⟨_, _, Try.underlying39, rfl, rfl, by kernel_rfl, by kernel_rfl⟩
theorem fl39_5 : Fld Try.prog 39 5 39 := ⟨_, _, Try.underlying39, rfl, rfl, by kernel_rfl⟩
theorem fd39_5 : ∃ fs fd, Try.prog.underlying 39 = some (.struct fs) ∧ fs[5]? = some fd ∧ fd.offset = 39 ∧ Ty Try.prog fd.type 1 false := ⟨_, _, Try.underlying39, rfl, rfl, by kernel_rfl, by kernel_rfl⟩
theorem fl39_6 : Fld Try.prog 39 6 40 := ⟨_, _, Try.underlying39, rfl, rfl, by kernel_rfl⟩
theorem fd39_6 : ∃ fs fd, Try.prog.underlying 39 = some (.struct fs) ∧ fs[6]? = some fd ∧ fd.offset = 40 ∧ Ty Try.prog fd.type 1 false := ⟨_, _, Try.underlying39, rfl, rfl, by kernel_rfl, by kernel_rfl⟩
theorem sz43 : (Try.prog.info? 43).map (·.size) = some 1 := by kernel_rfl
theorem ty43 : Ty Try.prog 43 1 false := ⟨sz43, by kernel_rfl⟩
theorem sz50 : (Try.prog.info? 50).map (·.size) = some 1 := by kernel_rfl
theorem ty50 : Ty Try.prog 50 1 false := ⟨sz50, by kernel_rfl⟩
theorem sz53 : (Try.prog.info? 53).map (·.size) = some 2 := by kernel_rfl
theorem ty53 : Ty Try.prog 53 2 true := ⟨sz53, by kernel_rfl⟩
theorem fl53_0 : Fld Try.prog 53 0 0 := ⟨_, _, Try.underlying53, rfl, rfl, by kernel_rfl⟩
theorem fd53_0 : ∃ fs fd, Try.prog.underlying 53 = some (.struct fs) ∧ fs[0]? = some fd ∧ fd.offset = 0 ∧ Ty Try.prog fd.type 1 false := ⟨_, _, Try.underlying53, rfl, rfl, by kernel_rfl, by kernel_rfl⟩
theorem fl53_1 : Fld Try.prog 53 1 1 := ⟨_, _, Try.underlying53, rfl, rfl, by kernel_rfl⟩
theorem fd53_1 : ∃ fs fd, Try.prog.underlying 53 = some (.struct fs) ∧ fs[1]? = some fd ∧ fd.offset = 1 ∧ Ty Try.prog fd.type 1 false := ⟨_, _, Try.underlying53, rfl, rfl, by kernel_rfl, by kernel_rfl⟩
theorem sz54 : (Try.prog.info? 54).map (·.size) = some 1 := by kernel_rfl
theorem ty54 : Ty Try.prog 54 1 false := ⟨sz54, by kernel_rfl⟩
theorem el54 : El Try.prog 54 3 1 8 := ⟨by kernel_rfl, by kernel_rfl, by decide⟩
theorem sz66 : (Try.prog.info? 66).map (·.size) = some 1 := by kernel_rfl
theorem ty66 : Ty Try.prog 66 1 false := ⟨sz66, by kernel_rfl⟩
theorem sz70 : (Try.prog.info? 70).map (·.size) = some 1 := by kernel_rfl
theorem ty70 : Ty Try.prog 70 1 false := ⟨sz70, by kernel_rfl⟩
theorem el70 : El Try.prog 70 72 7 40 := ⟨by kernel_rfl, by kernel_rfl, by decide⟩
theorem sz72 : (Try.prog.info? 72).map (·.size) = some 7 := by kernel_rfl
theorem ty72 : Ty Try.prog 72 7 true := ⟨sz72, by kernel_rfl⟩
theorem fl72_0 : Fld Try.prog 72 0 0 := ⟨_, _, Try.underlying72, rfl, rfl, by kernel_rfl⟩
theorem fd72_0 : ∃ fs fd, Try.prog.underlying 72 = some (.struct fs) ∧ fs[0]? = some fd ∧ fd.offset = 0 ∧ Ty Try.prog fd.type 1 false := ⟨_, _, Try.underlying72, rfl, rfl, by kernel_rfl, by kernel_rfl⟩
theorem fl72_1 : Fld Try.prog 72 1 1 := ⟨_, _, Try.underlying72, rfl, rfl, by kernel_rfl⟩
theorem fd72_1 : ∃ fs fd, Try.prog.underlying 72 = some (.struct fs) ∧ fs[1]? = some fd ∧ fd.offset = 1 ∧ Ty Try.prog fd.type 1 false := ⟨_, _, Try.underlying72, rfl, rfl, by kernel_rfl, by kernel_rfl⟩
theorem fl72_2 : Fld Try.prog 72 2 2 := ⟨_, _, Try.underlying72, rfl, rfl, by kernel_rfl⟩
theorem fd72_2 : ∃ fs fd, Try.prog.underlying 72 = some (.struct fs) ∧ fs[2]? = some fd ∧ fd.offset = 2 ∧ Ty Try.prog fd.type 1 false := ⟨_, _, Try.underlying72, rfl, rfl, by kernel_rfl, by kernel_rfl⟩
theorem fl72_3 : Fld Try.prog 72 3 3 := ⟨_, _, Try.underlying72, rfl, rfl, by kernel_rfl⟩
theorem fd72_3 : ∃ fs fd, Try.prog.underlying 72 = some (.struct fs) ∧ fs[3]? = some fd ∧ fd.offset = 3 ∧ Ty Try.prog fd.type 4 true := ⟨_, _, Try.underlying72, rfl, rfl, by kernel_rfl, by kernel_rfl⟩
theorem sz83 : (Try.prog.info? 83).map (·.size) = some 1 := by kernel_rfl
theorem ty83 : Ty Try.prog 83 1 false := ⟨sz83, by kernel_rfl⟩
theorem el83 : El Try.prog 83 92 47 128 := ⟨by kernel_rfl, by kernel_rfl, by decide⟩
theorem sz86 : (Try.prog.info? 86).map (·.size) = some 1 := by kernel_rfl
theorem ty86 : Ty Try.prog 86 1 false := ⟨sz86, by kernel_rfl⟩
theorem el86 : El Try.prog 86 89 47 128 := ⟨by kernel_rfl, by kernel_rfl, by decide⟩
theorem sz89 : (Try.prog.info? 89).map (·.size) = some 47 := by kernel_rfl
theorem ty89 : Ty Try.prog 89 47 true := ⟨sz89, by kernel_rfl⟩
theorem fl89_0 : Fld Try.prog 89 0 0 := ⟨_, _, Try.underlying89, rfl, rfl, by kernel_rfl⟩
theorem fd89_0 : ∃ fs fd, Try.prog.underlying 89 = some (.struct fs) ∧ fs[0]? = some fd ∧ fd.offset = 0 ∧ Ty Try.prog fd.type 1 false := ⟨_, _, Try.underlying89, rfl, rfl, by kernel_rfl, by kernel_rfl⟩
theorem fl89_1 : Fld Try.prog 89 1 1 := ⟨_, _, Try.underlying89, rfl, rfl, by kernel_rfl⟩
theorem fd89_1 : ∃ fs fd, Try.prog.underlying 89 = some (.struct fs) ∧ fs[1]? = some fd ∧ fd.offset = 1 ∧ Ty Try.prog fd.type 1 false := ⟨_, _, Try.underlying89, rfl, rfl, by kernel_rfl, by kernel_rfl⟩
theorem fl89_2 : Fld Try.prog 89 2 2 := ⟨_, _, Try.underlying89, rfl, rfl, by kernel_rfl⟩
theorem fd89_2 : ∃ fs fd, Try.prog.underlying 89 = some (.struct fs) ∧ fs[2]? = some fd ∧ fd.offset = 2 ∧ Ty Try.prog fd.type 32 true := ⟨_, _, Try.underlying89, rfl, rfl, by kernel_rfl, by kernel_rfl⟩
theorem fl89_3 : Fld Try.prog 89 3 34 := ⟨_, _, Try.underlying89, rfl, rfl, by kernel_rfl⟩
theorem fd89_3 : ∃ fs fd, Try.prog.underlying 89 = some (.struct fs) ∧ fs[3]? = some fd ∧ fd.offset = 34 ∧ Ty Try.prog fd.type 1 false := ⟨_, _, Try.underlying89, rfl, rfl, by kernel_rfl, by kernel_rfl⟩
theorem fl89_4 : Fld Try.prog 89 4 35 := ⟨_, _, Try.underlying89, rfl, rfl, by kernel_rfl⟩
theorem fd89_4 : ∃ fs fd, Try.prog.underlying 89 = some (.struct fs) ∧ fs[4]? = some fd ∧ fd.offset = 35 ∧ Ty Try.prog fd.type 1 false := ⟨_, _, Try.underlying89, rfl, rfl, by kernel_rfl, by kernel_rfl⟩
theorem fl89_5 : Fld Try.prog 89 5 36 := ⟨_, _, Try.underlying89, rfl, rfl, by kernel_rfl⟩
theorem fd89_5 : ∃ fs fd, Try.prog.underlying 89 = some (.struct fs) ∧ fs[5]? = some fd ∧ fd.offset = 36 ∧ Ty Try.prog fd.type 1 false := ⟨_, _, Try.underlying89, rfl, rfl, by kernel_rfl, by kernel_rfl⟩
theorem fl89_6 : Fld Try.prog 89 6 37 := ⟨_, _, Try.underlying89, rfl, rfl, by kernel_rfl⟩
theorem fd89_6 : ∃ fs fd, Try.prog.underlying 89 = some (.struct fs) ∧ fs[6]? = some fd ∧ fd.offset = 37 ∧ Ty Try.prog fd.type 1 false := ⟨_, _, Try.underlying89, rfl, rfl, by kernel_rfl, by kernel_rfl⟩
theorem fl89_7 : Fld Try.prog 89 7 38 := ⟨_, _, Try.underlying89, rfl, rfl, by kernel_rfl⟩
theorem fd89_7 : ∃ fs fd, Try.prog.underlying 89 = some (.struct fs) ∧ fs[7]? = some fd ∧ fd.offset = 38 ∧ Ty Try.prog fd.type 4 true := ⟨_, _, Try.underlying89, rfl, rfl, by kernel_rfl, by kernel_rfl⟩
theorem fl89_8 : Fld Try.prog 89 8 42 := ⟨_, _, Try.underlying89, rfl, rfl, by kernel_rfl⟩
theorem fd89_8 : ∃ fs fd, Try.prog.underlying 89 = some (.struct fs) ∧ fs[8]? = some fd ∧ fd.offset = 42 ∧ Ty Try.prog fd.type 4 true := ⟨_, _, Try.underlying89, rfl, rfl, by kernel_rfl, by kernel_rfl⟩
theorem fl89_9 : Fld Try.prog 89 9 46 := ⟨_, _, Try.underlying89, rfl, rfl, by kernel_rfl⟩
theorem fd89_9 : ∃ fs fd, Try.prog.underlying 89 = some (.struct fs) ∧ fs[9]? = some fd ∧ fd.offset = 46 ∧ Ty Try.prog fd.type 1 false := ⟨_, _, Try.underlying89, rfl, rfl, by kernel_rfl, by kernel_rfl⟩
theorem sz92 : (Try.prog.info? 92).map (·.size) = some 47 := by kernel_rfl
theorem ty92 : Ty Try.prog 92 47 true := ⟨sz92, by kernel_rfl⟩
theorem fl92_0 : Fld Try.prog 92 0 0 := ⟨_, _, Try.underlying92, rfl, rfl, by kernel_rfl⟩
theorem fd92_0 : ∃ fs fd, Try.prog.underlying 92 = some (.struct fs) ∧ fs[0]? = some fd ∧ fd.offset = 0 ∧ Ty Try.prog fd.type 1 false := ⟨_, _, Try.underlying92, rfl, rfl, by kernel_rfl, by kernel_rfl⟩
theorem fl92_1 : Fld Try.prog 92 1 1 := ⟨_, _, Try.underlying92, rfl, rfl, by kernel_rfl⟩
theorem fd92_1 : ∃ fs fd, Try.prog.underlying 92 = some (.struct fs) ∧ fs[1]? = some fd ∧ fd.offset = 1 ∧ Ty Try.prog fd.type 1 false := ⟨_, _, Try.underlying92, rfl, rfl, by kernel_rfl, by kernel_rfl⟩
theorem fl92_2 : Fld Try.prog 92 2 2 := ⟨_, _, Try.underlying92, rfl, rfl, by kernel_rfl⟩
theorem fd92_2 : ∃ fs fd, Try.prog.underlying 92 = some (.struct fs) ∧ fs[2]? = some fd ∧ fd.offset = 2 ∧ Ty Try.prog fd.type 32 true := ⟨_, _, Try.underlying92, rfl, rfl, by kernel_rfl, by kernel_rfl⟩
theorem fl92_3 : Fld Try.prog 92 3 34 := ⟨_, _, Try.underlying92, rfl, rfl, by kernel_rfl⟩
theorem fd92_3 : ∃ fs fd, Try.prog.underlying 92 = some (.struct fs) ∧ fs[3]? = some fd ∧ fd.offset = 34 ∧ Ty Try.prog fd.type 1 false := ⟨_, _, Try.underlying92, rfl, rfl, by kernel_rfl, by kernel_rfl⟩
theorem fl92_4 : Fld Try.prog 92 4 35 := ⟨_, _, Try.underlying92, rfl, rfl, by kernel_rfl⟩
theorem fd92_4 : ∃ fs fd, Try.prog.underlying 92 = some (.struct fs) ∧ fs[4]? = some fd ∧ fd.offset = 35 ∧ Ty Try.prog fd.type 1 false := ⟨_, _, Try.underlying92, rfl, rfl, by kernel_rfl, by kernel_rfl⟩
theorem fl92_5 : Fld Try.prog 92 5 36 := ⟨_, _, Try.underlying92, rfl, rfl, by kernel_rfl⟩
theorem fd92_5 : ∃ fs fd, Try.prog.underlying 92 = some (.struct fs) ∧ fs[5]? = some fd ∧ fd.offset = 36 ∧ Ty Try.prog fd.type 1 false := ⟨_, _, Try.underlying92, rfl, rfl, by kernel_rfl, by kernel_rfl⟩
theorem fl92_6 : Fld Try.prog 92 6 37 := ⟨_, _, Try.underlying92, rfl, rfl, by kernel_rfl⟩
theorem fd92_6 : ∃ fs fd, Try.prog.underlying 92 = some (.struct fs) ∧ fs[6]? = some fd ∧ fd.offset = 37 ∧ Ty Try.prog fd.type 1 false := ⟨_, _, Try.underlying92, rfl, rfl, by kernel_rfl, by kernel_rfl⟩
theorem fl92_7 : Fld Try.prog 92 7 38 := ⟨_, _, Try.underlying92, rfl, rfl, by kernel_rfl⟩
theorem fd92_7 : ∃ fs fd, Try.prog.underlying 92 = some (.struct fs) ∧ fs[7]? = some fd ∧ fd.offset = 38 ∧ Ty Try.prog fd.type 4 true := ⟨_, _, Try.underlying92, rfl, rfl, by kernel_rfl, by kernel_rfl⟩
theorem fl92_8 : Fld Try.prog 92 8 42 := ⟨_, _, Try.underlying92, rfl, rfl, by kernel_rfl⟩
theorem fd92_8 : ∃ fs fd, Try.prog.underlying 92 = some (.struct fs) ∧ fs[8]? = some fd ∧ fd.offset = 42 ∧ Ty Try.prog fd.type 4 true := ⟨_, _, Try.underlying92, rfl, rfl, by kernel_rfl, by kernel_rfl⟩
theorem fl92_9 : Fld Try.prog 92 9 46 := ⟨_, _, Try.underlying92, rfl, rfl, by kernel_rfl⟩
theorem fd92_9 : ∃ fs fd, Try.prog.underlying 92 = some (.struct fs) ∧ fs[9]? = some fd ∧ fd.offset = 46 ∧ Ty Try.prog fd.type 1 false := ⟨_, _, Try.underlying92, rfl, rfl, by kernel_rfl, by kernel_rfl⟩
theorem sz111 : (Try.prog.info? 111).map (·.size) = some 2 := by kernel_rfl
theorem ty111 : Ty Try.prog 111 2 true := ⟨sz111, by kernel_rfl⟩
theorem fl111_0 : Fld Try.prog 111 0 0 := ⟨_, _, Try.underlying111, rfl, rfl, by kernel_rfl⟩
theorem fd111_0 : ∃ fs fd, Try.prog.underlying 111 = some (.struct fs) ∧ fs[0]? = some fd ∧ fd.offset = 0 ∧ Ty Try.prog fd.type 1 false := ⟨_, _, Try.underlying111, rfl, rfl, by kernel_rfl, by kernel_rfl⟩
theorem fl111_1 : Fld Try.prog 111 1 1 := ⟨_, _, Try.underlying111, rfl, rfl, by kernel_rfl⟩
theorem fd111_1 : ∃ fs fd, Try.prog.underlying 111 = some (.struct fs) ∧ fs[1]? = some fd ∧ fd.offset = 1 ∧ Ty Try.prog fd.type 1 false := ⟨_, _, Try.underlying111, rfl, rfl, by kernel_rfl, by kernel_rfl⟩
theorem sz119 : (Try.prog.info? 119).map (·.size) = some 1 := by kernel_rfl
theorem ty119 : Ty Try.prog 119 1 false := ⟨sz119, by kernel_rfl⟩
theorem sz120 : (Try.prog.info? 120).map (·.size) = some 1 := by kernel_rfl
theorem ty120 : Ty Try.prog 120 1 false := ⟨sz120, by kernel_rfl⟩
theorem el120 : El Try.prog 120 35 4 32 := ⟨by kernel_rfl, by kernel_rfl, by decide⟩
theorem sz132 : (Try.prog.info? 132).map (·.size) = some 1 := by kernel_rfl
theorem ty132 : Ty Try.prog 132 1 false := ⟨sz132, by kernel_rfl⟩
theorem bd32 : Bld Try.prog 32 [(0, 1)] (([.slice none 0 0]) : List Value) := ⟨by kernel_rfl, .inl ⟨_, Try.underlying32, by kernel_rfl⟩⟩
theorem bd35 : Bld Try.prog 35 [(0, 1), (1, 1), (2, 1), (3, 1)] ((List.replicate 4 (.int .u64 0)) : List Value) := ⟨by kernel_rfl, .inr ⟨_, _, _, Try.underlying35, sz33, by kernel_rfl⟩⟩
theorem bd37 : Bld Try.prog 37 [(0, 1), (1, 1), (2, 1), (3, 1), (4, 1), (5, 1), (6, 1), (7, 1), (8, 1), (9, 1), (10, 1), (11, 1), (12, 1), (13, 1), (14, 1), (15, 1), (16, 1), (17, 1), (18, 1), (19, 1), (20, 1), (21, 1), (22, 1), (23, 1), (24, 1), (25, 1), (26, 1), (27, 1), (28, 1), (29, 1), (30, 1), (31, 1)] ((List.replicate 32 (.int .u8 0)) : List Value) := ⟨by kernel_rfl, .inr ⟨_, _, _, Try.underlying37, sz5, by kernel_rfl⟩⟩
theorem bd53 : Bld Try.prog 53 [(0, 1), (1, 1)] (([.string ⟨#[]⟩] ++ [.int .i64 0]) : List Value) := ⟨by kernel_rfl, .inl ⟨_, Try.underlying53, by kernel_rfl⟩⟩
theorem bd72 : Bld Try.prog 72 [(0, 1), (1, 1), (2, 1), (3, 4)] (([.int .u32 0] ++ [.int .u8 0] ++ [.int .u8 0] ++ (List.replicate 4 (.int .u64 0))) : List Value) := ⟨by kernel_rfl, .inl ⟨_, Try.underlying72, by kernel_rfl⟩⟩
theorem bd89 : Bld Try.prog 89 [(0, 1), (1, 1), (2, 32), (34, 1), (35, 1), (36, 1), (37, 1), (38, 4), (42, 4), (46, 1)] (([.int .u8 0] ++ [.int .u64 0] ++ (List.replicate 32 (.int .u8 0)) ++ [.int .u8 0] ++ [.int .u8 0] ++ [.int .u8 0] ++ [.int .u8 0] ++ (List.replicate 4 (.int .u64 0)) ++ (List.replicate 4 (.int .u64 0)) ++ [.int .u32 0]) : List Value) := ⟨by kernel_rfl, .inl ⟨_, Try.underlying89, by kernel_rfl⟩⟩
theorem bd92 : Bld Try.prog 92 [(0, 1), (1, 1), (2, 32), (34, 1), (35, 1), (36, 1), (37, 1), (38, 4), (42, 4), (46, 1)] (([.int .u8 0] ++ [.int .u64 0] ++ (List.replicate 32 (.int .u8 0)) ++ [.int .u8 0] ++ [.int .u8 0] ++ [.int .u8 0] ++ [.int .u8 0] ++ (List.replicate 4 (.int .u64 0)) ++ (List.replicate 4 (.int .u64 0)) ++ [.int .u32 0]) : List Value) := ⟨by kernel_rfl, .inl ⟨_, Try.underlying92, by kernel_rfl⟩⟩
theorem bd111 : Bld Try.prog 111 [(0, 1), (1, 1)] (([.slice none 0 0] ++ [.int .i64 0]) : List Value) := ⟨by kernel_rfl, .inl ⟨_, Try.underlying111, by kernel_rfl⟩⟩
theorem al35 : (Try.prog.info? 35).bind (fun i => i.zero.map Value.cells) = some ((intV [0, 0, 0, 0]) : List Value).toArray := by kernel_rfl
theorem al36 : (Try.prog.info? 36).bind (fun i => i.zero.map Value.cells) = some ((bytesV (List.replicate 32 0)) : List Value).toArray := by kernel_rfl
theorem al37 : (Try.prog.info? 37).bind (fun i => i.zero.map Value.cells) = some ((bytesV (List.replicate 32 0)) : List Value).toArray := by kernel_rfl
theorem al39 : (Try.prog.info? 39).bind (fun i => i.zero.map Value.cells) = some (([.int .u8 0] ++ [.int .u64 0] ++ (intV [0, 0, 0, 0]) ++ (bytesV (List.replicate 32 0)) ++ [.slice none 0 0] ++ [.int .i64 0] ++ [.int .i64 0]) : List Value).toArray := by kernel_rfl
theorem al53 : (Try.prog.info? 53).bind (fun i => i.zero.map Value.cells) = some (([.string ⟨#[]⟩] ++ [.int .i64 0]) : List Value).toArray := by kernel_rfl
theorem al72 : (Try.prog.info? 72).bind (fun i => i.zero.map Value.cells) = some (([.int .u32 0] ++ [.int .u8 0] ++ [.int .u8 0] ++ (intV [0, 0, 0, 0])) : List Value).toArray := by kernel_rfl
theorem al89 : (Try.prog.info? 89).bind (fun i => i.zero.map Value.cells) = some (([.int .u8 0] ++ [.int .u64 0] ++ (bytesV (List.replicate 32 0)) ++ [.int .u8 0] ++ [.int .u8 0] ++ [.int .u8 0] ++ [.int .u8 0] ++ (intV [0, 0, 0, 0]) ++ (intV [0, 0, 0, 0]) ++ [.int .u32 0]) : List Value).toArray := by kernel_rfl
theorem al92 : (Try.prog.info? 92).bind (fun i => i.zero.map Value.cells) = some (([.int .u8 0] ++ [.int .u64 0] ++ (bytesV (List.replicate 32 0)) ++ [.int .u8 0] ++ [.int .u8 0] ++ [.int .u8 0] ++ [.int .u8 0] ++ (intV [0, 0, 0, 0]) ++ (intV [0, 0, 0, 0]) ++ [.int .u32 0]) : List Value).toArray := by kernel_rfl
theorem nm13 : (Try.f13.name == "runtime.NumGoroutine") = false := by kernel_rfl
theorem nm14 : (Try.f14.name == "runtime.NumGoroutine") = false := by kernel_rfl
theorem nm15 : (Try.f15.name == "runtime.NumGoroutine") = false := by kernel_rfl
theorem nm16 : (Try.f16.name == "runtime.NumGoroutine") = false := by kernel_rfl
theorem nm17 : (Try.f17.name == "runtime.NumGoroutine") = false := by kernel_rfl
theorem nm18 : (Try.f18.name == "runtime.NumGoroutine") = false := by kernel_rfl
theorem nm19 : (Try.f19.name == "runtime.NumGoroutine") = false := by kernel_rfl
theorem nm20 : (Try.f20.name == "runtime.NumGoroutine") = false := by kernel_rfl
theorem nm21 : (Try.f21.name == "runtime.NumGoroutine") = false := by kernel_rfl
theorem nm22 : (Try.f22.name == "runtime.NumGoroutine") = false := by kernel_rfl
theorem nm23 : (Try.f23.name == "runtime.NumGoroutine") = false := by kernel_rfl
theorem nm24 : (Try.f24.name == "runtime.NumGoroutine") = false := by kernel_rfl
theorem nm25 : (Try.f25.name == "runtime.NumGoroutine") = false := by kernel_rfl
theorem nm26 : (Try.f26.name == "runtime.NumGoroutine") = false := by kernel_rfl
theorem nm27 : (Try.f27.name == "runtime.NumGoroutine") = false := by kernel_rfl
theorem nm28 : (Try.f28.name == "runtime.NumGoroutine") = false := by kernel_rfl
theorem nm29 : (Try.f29.name == "runtime.NumGoroutine") = false := by kernel_rfl
theorem nm30 : (Try.f30.name == "runtime.NumGoroutine") = false := by kernel_rfl
theorem nm31 : (Try.f31.name == "runtime.NumGoroutine") = false := by kernel_rfl
theorem nm32 : (Try.f32.name == "runtime.NumGoroutine") = false := by kernel_rfl
theorem nm33 : (Try.f33.name == "runtime.NumGoroutine") = false := by kernel_rfl
theorem nm34 : (Try.f34.name == "runtime.NumGoroutine") = false := by kernel_rfl
theorem nm35 : (Try.f35.name == "runtime.NumGoroutine") = false := by kernel_rfl
theorem nm36 : (Try.f36.name == "runtime.NumGoroutine") = false := by kernel_rfl
theorem nm37 : (Try.f37.name == "runtime.NumGoroutine") = false := by kernel_rfl
theorem nm38 : (Try.f38.name == "runtime.NumGoroutine") = false := by kernel_rfl
theorem nm39 : (Try.f39.name == "runtime.NumGoroutine") = false := by kernel_rfl
theorem nm40 : (Try.f40.name == "runtime.NumGoroutine") = false := by kernel_rfl
theorem nm41 : (Try.f41.name == "runtime.NumGoroutine") = false := by kernel_rfl
theorem nm42 : (Try.f42.name == "runtime.NumGoroutine") = false := by kernel_rfl
theorem nm43 : (Try.f43.name == "runtime.NumGoroutine") = false := by kernel_rfl
theorem nm44 : (Try.f44.name == "runtime.NumGoroutine") = false := by kernel_rfl
theorem nm45 : (Try.f45.name == "runtime.NumGoroutine") = false := by kernel_rfl
theorem nm46 : (Try.f46.name == "runtime.NumGoroutine") = false := by kernel_rfl
theorem nm47 : (Try.f47.name == "runtime.NumGoroutine") = false := by kernel_rfl
theorem nm48 : (Try.f48.name == "runtime.NumGoroutine") = false := by kernel_rfl
theorem nm49 : (Try.f49.name == "runtime.NumGoroutine") = false := by kernel_rfl
theorem nm50 : (Try.f50.name == "runtime.NumGoroutine") = false := by kernel_rfl
theorem nm51 : (Try.f51.name == "runtime.NumGoroutine") = false := by kernel_rfl
theorem nm52 : (Try.f52.name == "runtime.NumGoroutine") = false := by kernel_rfl
theorem nm53 : (Try.f53.name == "runtime.NumGoroutine") = false := by kernel_rfl
theorem nm54 : (Try.f54.name == "runtime.NumGoroutine") = false := by kernel_rfl
theorem nm55 : (Try.f55.name == "runtime.NumGoroutine") = false := by kernel_rfl
theorem nm56 : (Try.f56.name == "runtime.NumGoroutine") = false := by kernel_rfl
theorem nm57 : (Try.f57.name == "runtime.NumGoroutine") = false := by kernel_rfl
theorem nm58 : (Try.f58.name == "runtime.NumGoroutine") = false := by kernel_rfl
theorem nm59 : (Try.f59.name == "runtime.NumGoroutine") = false := by kernel_rfl
theorem nm60 : (Try.f60.name == "runtime.NumGoroutine") = false := by kernel_rfl
theorem nm61 : (Try.f61.name == "runtime.NumGoroutine") = false := by kernel_rfl
theorem nm62 : (Try.f62.name == "runtime.NumGoroutine") = false := by kernel_rfl
theorem nm63 : (Try.f63.name == "runtime.NumGoroutine") = false := by kernel_rfl
theorem nm64 : (Try.f64.name == "runtime.NumGoroutine") = false := by kernel_rfl
theorem nm65 : (Try.f65.name == "runtime.NumGoroutine") = false := by kernel_rfl
theorem nm66 : (Try.f66.name == "runtime.NumGoroutine") = false := by kernel_rfl
theorem nm67 : (Try.f67.name == "runtime.NumGoroutine") = false := by kernel_rfl
theorem nm68 : (Try.f68.name == "runtime.NumGoroutine") = false := by kernel_rfl
theorem nm69 : (Try.f69.name == "runtime.NumGoroutine") = false := by kernel_rfl
theorem nm71 : (Try.f71.name == "runtime.NumGoroutine") = false := by kernel_rfl
theorem nm72 : (Try.f72.name == "runtime.NumGoroutine") = false := by kernel_rfl
theorem nm73 : (Try.f73.name == "runtime.NumGoroutine") = false := by kernel_rfl
theorem nm74 : (Try.f74.name == "runtime.NumGoroutine") = false := by kernel_rfl
theorem nm75 : (Try.f75.name == "runtime.NumGoroutine") = false := by kernel_rfl
theorem nm76 : (Try.f76.name == "runtime.NumGoroutine") = false := by kernel_rfl
theorem nm77 : (Try.f77.name == "runtime.NumGoroutine") = false := by kernel_rfl
theorem nm78 : (Try.f78.name == "runtime.NumGoroutine") = false := by kernel_rfl
theorem nm79 : (Try.f79.name == "runtime.NumGoroutine") = false := by kernel_rfl
theorem nm80 : (Try.f80.name == "runtime.NumGoroutine") = false := by kernel_rfl
theorem nm81 : (Try.f81.name == "runtime.NumGoroutine") = false := by kernel_rfl
theorem nm83 : (Try.f83.name == "runtime.NumGoroutine") = false := by kernel_rfl
theorem mixed : Try.prog.follows .mixedOrders = true := by kernel_rfl
end Go.Proofs.Ytpngjgcbdaogmaa
