/- Closed facts of the translation: sizes of types, places of fields, names of functions. Printed by facts.py. -/
import Derived.Test.YtjbgdkdoniacgaaProg
import Derived.Test.YtjbgdkdoniacgaaPl
import Derived.KernelRfl
set_option linter.unusedVariables false
namespace Go.Proofs.Ytjbgdkdoniacgaa
open Go.Sx
theorem sz3 : (Try.prog.info? 3).map (·.size) = some 1 := by kernel_rfl
theorem ty3 : Ty Try.prog 3 1 false := ⟨sz3, by kernel_rfl⟩
theorem sz4 : (Try.prog.info? 4).map (·.size) = some 1 := by kernel_rfl
theorem ty4 : Ty Try.prog 4 1 false := ⟨sz4, by kernel_rfl⟩
theorem sz5 : (Try.prog.info? 5).map (·.size) = some 1 := by kernel_rfl
theorem ty5 : Ty Try.prog 5 1 false := ⟨sz5, by kernel_rfl⟩
theorem sz22 : (Try.prog.info? 22).map (·.size) = some 1 := by kernel_rfl
theorem ty22 : Ty Try.prog 22 1 false := ⟨sz22, by kernel_rfl⟩
theorem el22 : El Try.prog 22 45 47 128 := ⟨by kernel_rfl, by kernel_rfl, by decide⟩
theorem sz23 : (Try.prog.info? 23).map (·.size) = some 32 := by kernel_rfl
theorem ty23 : Ty Try.prog 23 32 true := ⟨sz23, by kernel_rfl⟩
theorem sz24 : (Try.prog.info? 24).map (·.size) = some 32 := by kernel_rfl
theorem ty24 : Ty Try.prog 24 32 true := ⟨sz24, by kernel_rfl⟩
theorem sz25 : (Try.prog.info? 25).map (·.size) = some 1 := by kernel_rfl
theorem ty25 : Ty Try.prog 25 1 false := ⟨sz25, by kernel_rfl⟩
theorem el25 : El Try.prog 25 5 1 1 := ⟨by kernel_rfl, by kernel_rfl, by decide⟩
theorem sz27 : (Try.prog.info? 27).map (·.size) = some 1 := by kernel_rfl
theorem ty27 : Ty Try.prog 27 1 false := ⟨sz27, by kernel_rfl⟩
theorem el27 : El Try.prog 27 34 47 128 := ⟨by kernel_rfl, by kernel_rfl, by decide⟩
theorem sz29 : (Try.prog.info? 29).map (·.size) = some 1 := by kernel_rfl
theorem ty29 : Ty Try.prog 29 1 false := ⟨sz29, by kernel_rfl⟩
theorem sz31 : (Try.prog.info? 31).map (·.size) = some 4 := by kernel_rfl
theorem ty31 : Ty Try.prog 31 4 true := ⟨sz31, by kernel_rfl⟩
theorem sz32 : (Try.prog.info? 32).map (·.size) = some 1 := by kernel_rfl
theorem ty32 : Ty Try.prog 32 1 false := ⟨sz32, by kernel_rfl⟩
theorem sz34 : (Try.prog.info? 34).map (·.size) = some 47 := by kernel_rfl
theorem ty34 : Ty Try.prog 34 47 true := ⟨sz34, by kernel_rfl⟩
theorem fl34_0 : Fld Try.prog 34 0 0 := ⟨_, _, Try.underlying34, rfl, rfl, by kernel_rfl⟩
theorem fd34_0 : ∃ fs fd, Try.prog.underlying 34 = some (.struct fs) ∧ fs[0]? = some fd ∧ fd.offset = 0 ∧ Ty Try.prog fd.type 1 false := ⟨_, _, Try.underlying34, rfl, rfl, by kernel_rfl, by kernel_rfl⟩
theorem fl34_1 : Fld Try.prog 34 1 1 := ⟨_, _, Try.underlying34, rfl, rfl, by kernel_rfl⟩
theorem fd34_1 : ∃ fs fd, Try.prog.underlying 34 = some (.struct fs) ∧ fs[1]? = some fd ∧ fd.offset = 1 ∧ Ty Try.prog fd.type 1 false := ⟨_, _, Try.underlying34, rfl, rfl, by kernel_rfl, by kernel_rfl⟩
theorem fl34_2 : Fld Try.prog 34 2 2 := ⟨_, _, Try.underlying34, rfl, rfl, by kernel_rfl⟩
theorem fd34_2 : ∃ fs fd, Try.prog.underlying 34 = some (.struct fs) ∧ fs[2]? = some fd ∧ fd.offset = 2 ∧ Ty Try.prog fd.type 32 true := ⟨_, _, Try.underlying34, rfl, rfl, by kernel_rfl, by kernel_rfl⟩
theorem fl34_3 : Fld Try.prog 34 3 34 := ⟨_, _, Try.underlying34, rfl, rfl, by kernel_rfl⟩
theorem fd34_3 : ∃ fs fd, Try.prog.underlying 34 = some (.struct fs) ∧ fs[3]? = some fd ∧ fd.offset = 34 ∧ Ty Try.prog fd.type 1 false := ⟨_, _, Try.underlying34, rfl, rfl, by kernel_rfl, by kernel_rfl⟩
theorem fl34_4 : Fld Try.prog 34 4 35 := ⟨_, _, Try.underlying34, rfl, rfl, by kernel_rfl⟩
theorem fd34_4 : ∃ fs fd, Try.prog.underlying 34 = some (.struct fs) ∧ fs[4]? = some fd ∧ fd.offset = 35 ∧ Ty Try.prog fd.type 1 false := ⟨_, _, Try.underlying34, rfl, rfl, by kernel_rfl, by kernel_rfl⟩
theorem fl34_5 : Fld Try.prog 34 5 36 := ⟨_, _, Try.underlying34, rfl, rfl, by kernel_rfl⟩
theorem fd34_5 : ∃ fs fd, Try.prog.underlying 34 = some (.struct fs) ∧ fs[5]? = some fd ∧ fd.offset = 36 ∧ Ty Try.prog fd.type 1 false := ⟨_, _, Try.underlying34, rfl, rfl, by kernel_rfl, by kernel_rfl⟩
theorem fl34_6 : Fld Try.prog 34 6 37 := ⟨_, _, Try.underlying34, rfl, rfl, by kernel_rfl⟩
theorem fd34_6 : ∃ fs fd, Try.prog.underlying 34 = some (.struct fs) ∧ fs[6]? = some fd ∧ fd.offset = 37 ∧ Ty Try.prog fd.type 1 false := ⟨_, _, Try.underlying34, rfl, rfl, by kernel_rfl, by kernel_rfl⟩
theorem fl34_7 : Fld Try.prog 34 7 38 := ⟨_, _, Try.underlying34, rfl, rfl, by kernel_rfl⟩
theorem fd34_7 : ∃ fs fd, Try.prog.underlying 34 = some (.struct fs) ∧ fs[7]? = some fd ∧ fd.offset = 38 ∧ Ty Try.prog fd.type 4 true := ⟨_, _, Try.underlying34, rfl, rfl, by kernel_rfl, by kernel_rfl⟩
theorem fl34_8 : Fld Try.prog 34 8 42 := ⟨_, _, Try.underlying34, rfl, rfl, by kernel_rfl⟩
theorem fd34_8 : ∃ fs fd, Try.prog.underlying 34 = some (.struct fs) ∧ fs[8]? = some fd ∧ fd.offset = 42 ∧ Ty Try.prog fd.type 4 true := ⟨_, _, Try.underlying34, rfl, rfl, by kernel_rfl, by kernel_rfl⟩
theorem fl34_9 : Fld Try.prog 34 9 46 := ⟨_, _, Try.underlying34, rfl, rfl, by kernel_rfl⟩
theorem fd34_9 : ∃ fs fd, Try.prog.underlying 34 = some (.struct fs) ∧ fs[9]? = some fd ∧ fd.offset = 46 ∧ Ty Try.prog fd.type 1 false := ⟨_, _, Try.underlying34, rfl, rfl, by kernel_rfl, by kernel_rfl⟩
theorem sz37 : (Try.prog.info? 37).map (·.size) = some 1 := by kernel_rfl
theorem ty37 : Ty Try.prog 37 1 false := ⟨sz37, by kernel_rfl⟩
theorem sz45 : (Try.prog.info? 45).map (·.size) = some 47 := by kernel_rfl
theorem ty45 : Ty Try.prog 45 47 true := ⟨sz45, by kernel_rfl⟩
theorem fl45_0 : Fld Try.prog 45 0 0 := ⟨_, _, Try.underlying45, rfl, rfl, by kernel_rfl⟩
theorem fd45_0 : ∃ fs fd, Try.prog.underlying 45 = some (.struct fs) ∧ fs[0]? = some fd ∧ fd.offset = 0 ∧ Ty Try.prog fd.type 1 false := ⟨_, _, Try.underlying45, rfl, rfl, by kernel_rfl, by kernel_rfl⟩
theorem fl45_1 : Fld Try.prog 45 1 1 := ⟨_, _, Try.underlying45, rfl, rfl, by kernel_rfl⟩
theorem fd45_1 : ∃ fs fd, Try.prog.underlying 45 = some (.struct fs) ∧ fs[1]? = some fd ∧ fd.offset = 1 ∧ Ty Try.prog fd.type 1 false := ⟨_, _, Try.underlying45, rfl, rfl, by kernel_rfl, by kernel_rfl⟩
theorem fl45_2 : Fld Try.prog 45 2 2 := ⟨_, _, Try.underlying45, rfl, rfl, by kernel_rfl⟩
theorem fd45_2 : ∃ fs fd, Try.prog.underlying 45 = some (.struct fs) ∧ fs[2]? = some fd ∧ fd.offset = 2 ∧ Ty Try.prog fd.type 32 true := ⟨_, _, Try.underlying45, rfl, rfl, by kernel_rfl, by kernel_rfl⟩
theorem fl45_3 : Fld Try.prog 45 3 34 := ⟨_, _, Try.underlying45, rfl, rfl, by kernel_rfl⟩
theorem fd45_3 : ∃ fs fd, Try.prog.underlying 45 = some (.struct fs) ∧ fs[3]? = some fd ∧ fd.offset = 34 ∧ Ty Try.prog fd.type 1 false := ⟨_, _, Try.underlying45, rfl, rfl, by kernel_rfl, by kernel_rfl⟩
theorem fl45_4 : Fld Try.prog 45 4 35 := ⟨_, _, Try.underlying45, rfl, rfl, by kernel_rfl⟩
theorem fd45_4 : ∃ fs fd, Try.prog.underlying 45 = some (.struct fs) ∧ fs[4]? = some fd ∧ fd.offset = 35 ∧ Ty Try.prog fd.type 1 false := ⟨_, _, Try.underlying45, rfl, rfl, by kernel_rfl, by kernel_rfl⟩
theorem fl45_5 : Fld Try.prog 45 5 36 := ⟨_, _, Try.underlying45, rfl, rfl, by kernel_rfl⟩
theorem fd45_5 : ∃ fs fd, Try.prog.underlying 45 = some (.struct fs) ∧ fs[5]? = some fd ∧ fd.offset = 36 ∧ Ty Try.prog fd.type 1 false := ⟨_, _, Try.underlying45, rfl, rfl, by kernel_rfl, by kernel_rfl⟩
theorem fl45_6 : Fld Try.prog 45 6 37 := ⟨_, _, Try.underlying45, rfl, rfl, by kernel_rfl⟩
theorem fd45_6 : ∃ fs fd, Try.prog.underlying 45 = some (.struct fs) ∧ fs[6]? = some fd ∧ fd.offset = 37 ∧ Ty Try.prog fd.type 1 false := ⟨_, _, Try.underlying45, rfl, rfl, by kernel_rfl, by kernel_rfl⟩
theorem fl45_7 : Fld Try.prog 45 7 38 := ⟨_, _, Try.underlying45, rfl, rfl, by kernel_rfl⟩
theorem fd45_7 : ∃ fs fd, Try.prog.underlying 45 = some (.struct fs) ∧ fs[7]? = some fd ∧ fd.offset = 38 ∧ Ty Try.prog fd.type 4 true := ⟨_, _, Try.underlying45, rfl, rfl, by kernel_rfl, by kernel_rfl⟩
theorem fl45_8 : Fld Try.prog 45 8 42 := ⟨_, _, Try.underlying45, rfl, rfl, by kernel_rfl⟩
theorem fd45_8 : ∃ fs fd, Try.prog.underlying 45 = some (.struct fs) ∧ fs[8]? = some fd ∧ fd.offset = 42 ∧ Ty Try.prog fd.type 4 true := ⟨_, _, Try.underlying45, rfl, rfl, by kernel_rfl, by kernel_rfl⟩
theorem fl45_9 : Fld Try.prog 45 9 46 := ⟨_, _, Try.underlying45, rfl, rfl, by kernel_rfl⟩
theorem fd45_9 : ∃ fs fd, Try.prog.underlying 45 = some (.struct fs) ∧ fs[9]? = some fd ∧ fd.offset = 46 ∧ Ty Try.prog fd.type 1 false := ⟨_, _, Try.underlying45, rfl, rfl, by kernel_rfl, by kernel_rfl⟩
theorem sz49 : (Try.prog.info? 49).map (·.size) = some 1 := by kernel_rfl
theorem ty49 : Ty Try.prog 49 1 false := ⟨sz49, by kernel_rfl⟩
theorem sz50 : (Try.prog.info? 50).map (·.size) = some 1 := by kernel_rfl
theorem ty50 : Ty Try.prog 50 1 false := ⟨sz50, by kernel_rfl⟩
theorem el50 : El Try.prog 50 31 4 32 := ⟨by kernel_rfl, by kernel_rfl, by decide⟩
theorem sz52 : (Try.prog.info? 52).map (·.size) = some 1 := by kernel_rfl
theorem ty52 : Ty Try.prog 52 1 false := ⟨sz52, by kernel_rfl⟩
theorem el52 : El Try.prog 52 3 1 8 := ⟨by kernel_rfl, by kernel_rfl, by decide⟩
theorem sz56 : (Try.prog.info? 56).map (·.size) = some 1 := by kernel_rfl
theorem ty56 : Ty Try.prog 56 1 false := ⟨sz56, by kernel_rfl⟩
theorem sz58 : (Try.prog.info? 58).map (·.size) = some 1 := by kernel_rfl
theorem ty58 : Ty Try.prog 58 1 true := ⟨sz58, by kernel_rfl⟩
theorem fl58_0 : Fld Try.prog 58 0 0 := ⟨_, _, Try.underlying58, rfl, rfl, by kernel_rfl⟩
theorem fd58_0 : ∃ fs fd, Try.prog.underlying 58 = some (.struct fs) ∧ fs[0]? = some fd ∧ fd.offset = 0 ∧ Ty Try.prog fd.type 1 false := ⟨_, _, Try.underlying58, rfl, rfl, by kernel_rfl, by kernel_rfl⟩
theorem sz76 : (Try.prog.info? 76).map (·.size) = some 1 := by kernel_rfl
theorem ty76 : Ty Try.prog 76 1 false := ⟨sz76, by kernel_rfl⟩
theorem bd31 : Bld Try.prog 31 [(0, 1), (1, 1), (2, 1), (3, 1)] ((List.replicate 4 (.int .u64 0)) : List Value) := ⟨by kernel_rfl, .inr ⟨_, _, _, Try.underlying31, sz29, by kernel_rfl⟩⟩
theorem bd45 : Bld Try.prog 45 [(0, 1), (1, 1), (2, 32), (34, 1), (35, 1), (36, 1), (37, 1), (38, 4), (42, 4), (46, 1)] (([.int .u8 0] ++ [.int .u64 0] ++ (List.replicate 32 (.int .u8 0)) ++ [.int .u8 0] ++ [.int .u8 0] ++ [.int .u8 0] ++ [.int .u8 0] ++ (List.replicate 4 (.int .u64 0)) ++ (List.replicate 4 (.int .u64 0)) ++ [.int .u32 0]) : List Value) := ⟨by kernel_rfl, .inl ⟨_, Try.underlying45, by kernel_rfl⟩⟩
theorem bd58 : Bld Try.prog 58 [(0, 1)] (([.slice none 0 0]) : List Value) := ⟨by kernel_rfl, .inl ⟨_, Try.underlying58, by kernel_rfl⟩⟩
theorem al23 : (Try.prog.info? 23).bind (fun i => i.zero.map Value.cells) = some ((bytesV (List.replicate 32 0)) : List Value).toArray := by kernel_rfl
theorem al31 : (Try.prog.info? 31).bind (fun i => i.zero.map Value.cells) = some ((intV [0, 0, 0, 0]) : List Value).toArray := by kernel_rfl
theorem al34 : (Try.prog.info? 34).bind (fun i => i.zero.map Value.cells) = some (([.int .u8 0] ++ [.int .u64 0] ++ (bytesV (List.replicate 32 0)) ++ [.int .u8 0] ++ [.int .u8 0] ++ [.int .u8 0] ++ [.int .u8 0] ++ (intV [0, 0, 0, 0]) ++ (intV [0, 0, 0, 0]) ++ [.int .u32 0]) : List Value).toArray := by kernel_rfl
theorem al45 : (Try.prog.info? 45).bind (fun i => i.zero.map Value.cells) = some (([.int .u8 0] ++ [.int .u64 0] ++ (bytesV (List.replicate 32 0)) ++ [.int .u8 0] ++ [.int .u8 0] ++ [.int .u8 0] ++ [.int .u8 0] ++ (intV [0, 0, 0, 0]) ++ (intV [0, 0, 0, 0]) ++ [.int .u32 0]) : List Value).toArray := by kernel_rfl
theorem nm4 : (Try.f4.name == "runtime.NumGoroutine") = false := by kernel_rfl
theorem nm5 : (Try.f5.name == "runtime.NumGoroutine") = false := by kernel_rfl
theorem nm6 : (Try.f6.name == "runtime.NumGoroutine") = false := by kernel_rfl
theorem nm7 : (Try.f7.name == "runtime.NumGoroutine") = false := by kernel_rfl
theorem nm8 : (Try.f8.name == "runtime.NumGoroutine") = false := by kernel_rfl
theorem nm9 : (Try.f9.name == "runtime.NumGoroutine") = false := by kernel_rfl
theorem nm10 : (Try.f10.name == "runtime.NumGoroutine") = false := by kernel_rfl
theorem nm11 : (Try.f11.name == "runtime.NumGoroutine") = false := by kernel_rfl
theorem nm12 : (Try.f12.name == "runtime.NumGoroutine") = false := by kernel_rfl
theorem nm14 : (Try.f14.name == "runtime.NumGoroutine") = false := by kernel_rfl
theorem nm15 : (Try.f15.name == "runtime.NumGoroutine") = false := by kernel_rfl
theorem nm16 : (Try.f16.name == "runtime.NumGoroutine") = false := by kernel_rfl
theorem nm17 : (Try.f17.name == "runtime.NumGoroutine") = false := by kernel_rfl
theorem nm18 : (Try.f18.name == "runtime.NumGoroutine") = false := by kernel_rfl
theorem nm19 : (Try.f19.name == "runtime.NumGoroutine") = false := by kernel_rfl
theorem nm20 : (Try.f20.name == "runtime.NumGoroutine") = false := by kernel_rfl
theorem nm21 : (Try.f21.name == "runtime.NumGoroutine") = false := by kernel_rfl
theorem nm22 : (Try.f22.name == "runtime.NumGoroutine") = false := by kernel_rfl
theorem nm23 : (Try.f23.name == "runtime.NumGoroutine") = false := by kernel_rfl
theorem nm24 : (Try.f24.name == "runtime.NumGoroutine") = false := by kernel_rfl
theorem nm25 : (Try.f25.name == "runtime.NumGoroutine") = false := by kernel_rfl
theorem nm26 : (Try.f26.name == "runtime.NumGoroutine") = false := by kernel_rfl
theorem nm27 : (Try.f27.name == "runtime.NumGoroutine") = false := by kernel_rfl
theorem nm28 : (Try.f28.name == "runtime.NumGoroutine") = false := by kernel_rfl
theorem nm29 : (Try.f29.name == "runtime.NumGoroutine") = false := by kernel_rfl
theorem nm30 : (Try.f30.name == "runtime.NumGoroutine") = false := by kernel_rfl
theorem nm31 : (Try.f31.name == "runtime.NumGoroutine") = false := by kernel_rfl
theorem nm32 : (Try.f32.name == "runtime.NumGoroutine") = false := by kernel_rfl
theorem nm33 : (Try.f33.name == "runtime.NumGoroutine") = false := by kernel_rfl
theorem nm34 : (Try.f34.name == "runtime.NumGoroutine") = false := by kernel_rfl
theorem nm35 : (Try.f35.name == "runtime.NumGoroutine") = false := by kernel_rfl
theorem nm37 : (Try.f37.name == "runtime.NumGoroutine") = false := by kernel_rfl
theorem mixed : Try.prog.follows .mixedOrders = true := by kernel_rfl
end Go.Proofs.Ytjbgdkdoniacgaa
