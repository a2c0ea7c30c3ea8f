/- Walks, written by gen.py off the translation's own print: each says what the Go function comes to. -/
import Derived.Test.YtfgikoilgmddhaaDoorTh
set_option linter.unusedVariables false
set_option linter.unusedSimpArgs false
namespace Go.Proofs.YtfgikoilgmddhaaDoor
open Go.Sx Go.RowKit
attribute [local irreducible] Ac Ex WL WC WX WP Gives sha

/- (*sponsion/tree.Tree).Len#nil -/
theorem nLen_ok (w : World) :
    Gives Tryd.prog 16 #[.pointer none] w fun u w1 => u = .int .u64 0 ∧ Keep nof w w1 := by
  have M0 := Mem.start w nof
  refine Gives.enter (n := 13) Tryd.func16 rfl Tryd.ntmps16 rfl (env := [(0, .pointer none)]) rfl ?_
  refine WC.seq ?_
  refine WC.region ?_
  refine WL.ex rfl rfl rfl (Ex.asg rfl) ?_
  refine WL.nil ?_
  refine WX.next (?_)
  refine WC.seq ?_
  refine WC.seq ?_
  refine WC.region ?_
  refine WL.ex rfl rfl rfl (Ex.mv rfl) ?_
  refine WL.ex rfl rfl rfl (Ex.eqPn Tryd.underlying25 rfl) ?_
  refine WL.nil ?_
  refine WX.next (?_)
  refine WC.yes rfl ?_
  refine WC.seq ?_
  refine WC.region ?_
  refine WL.ex rfl rfl rfl (Ex.asg rfl) ?_
  refine WL.nil ?_
  refine WX.next (?_)
  refine WC.ret ?_
  refine WX.ret_then (?_)
  refine WX.ret1 rfl rfl ?_
  exact ⟨rfl, M0.keep⟩

/- (*sponsion/tree.Tree).Depth#nil -/
theorem nDepth_ok (w : World) :
    Gives Tryd.prog 28 #[.pointer none] w fun u w1 => u = .int .i64 0 ∧ Keep nof w w1 := by
  have M0 := Mem.start w nof
  refine Gives.enter (n := 11) Tryd.func28 rfl Tryd.ntmps28 rfl (env := [(0, .pointer none)]) rfl ?_
  refine WC.seq ?_
  refine WC.region ?_
  refine WL.ex rfl rfl rfl (Ex.asg rfl) ?_
  refine WL.nil ?_
  refine WX.next (?_)
  refine WC.seq ?_
  refine WC.seq ?_
  refine WC.region ?_
  refine WL.ex rfl rfl rfl (Ex.mv rfl) ?_
  refine WL.ex rfl rfl rfl (Ex.eqPn Tryd.underlying25 rfl) ?_
  refine WL.nil ?_
  refine WX.next (?_)
  refine WC.yes rfl ?_
  refine WC.seq ?_
  refine WC.region ?_
  refine WL.ex rfl rfl rfl (Ex.asg rfl) ?_
  refine WL.nil ?_
  refine WX.next (?_)
  refine WC.ret ?_
  refine WX.ret_then (?_)
  refine WX.ret1 rfl rfl ?_
  exact ⟨rfl, M0.keep⟩

/- (*sponsion/tree.Tree).Append#nil -/
theorem nApp_ok (w : World) (h : List UInt8) (hh : H32 h) :
    Gives Tryd.prog 13 #[.pointer none, .agg (bytesV h).toArray] w fun u w1 => u = .tuple #[.int .u64 0, .int .i64 1] ∧ Keep nof w w1 := by
  have M0 := Mem.start w nof
  refine Gives.enter (n := 77) Tryd.func13 rfl Tryd.ntmps13 rfl (env := [(0, .pointer none), (1, .agg (bytesV h).toArray)]) rfl ?_
  refine WC.seq ?_
  refine WC.region ?_
  refine WL.ac rfl rfl rfl (Ac.box M0 rfl rfl) ?_; rintro v1 w1 ⟨g1, rfl, hg1, K1, M1⟩
  refine WL.ex rfl rfl rfl (Ex.asg rfl) ?_
  refine WL.ex rfl rfl rfl (Ex.asg rfl) ?_
  refine WL.nil ?_
  refine WX.next (?_)
  refine WC.scope ?_
  refine WC.seq ?_
  refine WC.seq ?_
  refine WC.region ?_
  refine WL.ex rfl rfl rfl (Ex.mv rfl) ?_
  refine WL.ex rfl rfl rfl (Ex.eqPn Tryd.underlying25 rfl) ?_
  refine WL.nil ?_
  refine WX.next (?_)
  refine WC.yes rfl ?_
  refine WC.seq ?_
  refine WC.region ?_
  refine WL.ex rfl rfl rfl (Ex.asg rfl) ?_
  refine WL.ex rfl rfl rfl (Ex.asg rfl) ?_
  refine WL.nil ?_
  refine WX.next (?_)
  refine WC.ret ?_
  refine WX.ret_then (WX.ret_scope (?_))
  refine WX.ret2 rfl rfl rfl ?_
  exact ⟨rfl, M1.keep⟩
  -- UNUSED HINTS ['plainscope']

/- (*sponsion/tree.Tree).Cut#nil -/
theorem nCut_ok (w : World) (n : Nat) :
    Gives Tryd.prog 15 #[.pointer none, .int .u64 (n : Int)] w fun u w1 => u = .bool false ∧ Keep nof w w1 := by
  have M0 := Mem.start w nof
  refine Gives.enter (n := 40) Tryd.func15 rfl Tryd.ntmps15 rfl (env := [(0, .pointer none), (1, .int .u64 (n : Int))]) rfl ?_
  refine WC.seq ?_
  refine WC.region ?_
  refine WL.ex rfl rfl rfl (Ex.asg rfl) ?_
  refine WL.nil ?_
  refine WX.next (?_)
  refine WC.seq ?_
  refine WC.seq ?_
  refine WC.region ?_
  refine WL.ex rfl rfl rfl (Ex.mv rfl) ?_
  refine WL.ex rfl rfl rfl (Ex.eqPn Tryd.underlying25 rfl) ?_
  refine WL.ex rfl rfl rfl (Ex.mv rfl) ?_
  refine WL.no rfl rfl rfl rfl rfl rfl ?_
  refine WL.no rfl rfl rfl rfl rfl rfl ?_
  refine WL.no rfl rfl rfl rfl rfl rfl ?_
  refine WL.no rfl rfl rfl rfl rfl rfl ?_
  refine WL.ex rfl rfl rfl (Ex.pickT rfl rfl) ?_
  refine WL.nil ?_
  refine WX.next (?_)
  refine WC.yes rfl ?_
  refine WC.seq ?_
  refine WC.region ?_
  refine WL.ex rfl rfl rfl (Ex.asg rfl) ?_
  refine WL.nil ?_
  refine WX.next (?_)
  refine WC.ret ?_
  refine WX.ret_then (?_)
  refine WX.ret1 rfl rfl ?_
  exact ⟨rfl, M0.keep⟩

/- (*sponsion/tree.Tree).Copy#nil -/
theorem nCopy_ok (w : World) :
    Gives Tryd.prog 31 #[.pointer none] w fun u w1 => u = .pointer none ∧ Keep nof w w1 := by
  have M0 := Mem.start w nof
  refine Gives.enter (n := 43) Tryd.func31 rfl Tryd.ntmps31 rfl (env := [(0, .pointer none)]) rfl ?_
  refine WC.seq ?_
  refine WC.region ?_
  refine WL.ex rfl rfl rfl (Ex.asg rfl) ?_
  refine WL.nil ?_
  refine WX.next (?_)
  refine WC.seq ?_
  refine WC.seq ?_
  refine WC.region ?_
  refine WL.ex rfl rfl rfl (Ex.mv rfl) ?_
  refine WL.ex rfl rfl rfl (Ex.eqPn Tryd.underlying25 rfl) ?_
  refine WL.nil ?_
  refine WX.next (?_)
  refine WC.yes rfl ?_
  refine WC.seq ?_
  refine WC.region ?_
  refine WL.ex rfl rfl rfl (Ex.asg rfl) ?_
  refine WL.nil ?_
  refine WX.next (?_)
  refine WC.ret ?_
  refine WX.ret_then (?_)
  refine WX.ret1 rfl rfl ?_
  exact ⟨rfl, M0.keep⟩

/- (*sponsion/tree.Tree).Leaf#nil -/
theorem nLeaf_ok (w : World) (n : Nat) :
    Gives Tryd.prog 29 #[.pointer none, .int .u64 (n : Int)] w fun u w1 => u = .tuple #[.agg (bytesV (List.replicate 32 0)).toArray, .bool false] ∧ Keep nof w w1 := by
  have M0 := Mem.start w nof
  refine Gives.enter (n := 20) Tryd.func29 rfl Tryd.ntmps29 rfl (env := [(0, .pointer none), (1, .int .u64 (n : Int))]) rfl ?_
  refine WC.seq ?_
  refine WC.region ?_
  refine WL.ac rfl rfl rfl (Ac.alloc M0 (l := bytesV (List.replicate 32 0)) (by kernel_rfl)) ?_; rintro v1 w1 ⟨go, rfl, hg1, K1, M1⟩
  refine WL.ex rfl rfl rfl (Ex.asg rfl) ?_
  refine WL.nil ?_
  refine WX.next (?_)
  refine WC.seq ?_
  refine WC.seq ?_
  refine WC.region ?_
  refine WL.ex rfl rfl rfl (Ex.mv rfl) ?_
  refine WL.ex rfl rfl rfl (Ex.mv rfl) ?_
  refine WL.ac rfl rfl rfl (Ac.call rfl Tryd.func16 nm16 rfl (nLen_ok w1)) ?_; rintro v5 w5 ⟨rfl, K5⟩
  have M5 := M1.step K5
  refine WL.ex rfl rfl rfl (Ex.geq rfl rfl) ?_
  refine WL.nil ?_
  refine WX.next (?_)
  refine WC.cond_dec rfl (fun h9 => ?_) (fun h9 => ?_)
  · skip
    refine WC.seq ?_
    refine WC.region ?_
    refine WL.ex rfl rfl rfl (Ex.bld bd28 (parts := []) (l := bytesV (List.replicate 32 0)) rfl rfl rfl rfl) ?_
    refine WL.ac0 rfl rfl (Ac.stA M5 ty28 rfl rfl rfl (h32_len (by first | assumption | exact h32_0)) (bytesV_one _) (i := 0) rfl (by first | (rw [h32_len (by first | assumption | exact h32_0), h32_len (by first | assumption | exact h32_0)]; decide) | (rw [h32_len (by first | assumption | exact h32_0)]; decide) | rw [h32_len (by first | assumption | exact h32_0)])) ?_; rintro v8 w8 ⟨K8, M8⟩
    try dsimp only [List.set] at M8
    rw [splice_all _ _ (by first | rw [h32_len (by first | assumption | exact h32_0), h32_len (by first | assumption | exact h32_0)] | rw [h32_len (by first | assumption | exact h32_0)])] at M8
    refine WL.ex rfl rfl rfl (Ex.asg rfl) ?_
    refine WL.nil ?_
    refine WX.next (?_)
    refine WC.ret ?_
    refine WX.ret_then (?_)
    refine WX.retn rfl (.cell rfl (run_loadVarA ty28 (h32_len (by first | assumption | exact h32_0)) (M8.rdw (i := 0) rfl)) (.tmp rfl .nil)) rfl ?_
    exact ⟨rfl, M8.keep⟩
  · exact absurd (show (0 : Int) ≤ (n : Int) by omega) h9

/- (*sponsion/tree.Tree).Node#nil -/
theorem nNode_ok (w : World) (n : Nat) (z : Int) (p : Nat) :
    Gives Tryd.prog 23 #[.pointer none, .int .u64 (n : Int), .int .i64 z, .int .u64 (p : Int)] w fun u w1 => u = .tuple #[.agg (bytesV (List.replicate 32 0)).toArray, .bool false] ∧ Keep nof w w1 := by
  have M0 := Mem.start w nof
  refine Gives.enter (n := 71) Tryd.func23 rfl Tryd.ntmps23 rfl (env := [(0, .pointer none), (1, .int .u64 (n : Int)), (2, .int .i64 z), (3, .int .u64 (p : Int))]) rfl ?_
  refine WC.seq ?_
  refine WC.region ?_
  refine WL.ac rfl rfl rfl (Ac.alloc M0 (l := bytesV (List.replicate 32 0)) (by kernel_rfl)) ?_; rintro v1 w1 ⟨go, rfl, hg1, K1, M1⟩
  refine WL.ex rfl rfl rfl (Ex.asg rfl) ?_
  refine WL.nil ?_
  refine WX.next (?_)
  refine WC.seq ?_
  refine WC.seq ?_
  refine WC.region ?_
  refine WL.ex rfl rfl rfl (Ex.mv rfl) ?_
  refine WL.ex rfl rfl rfl (Ex.eqPn Tryd.underlying25 rfl) ?_
  refine WL.ex rfl rfl rfl (Ex.mv rfl) ?_
  refine WL.no rfl rfl rfl rfl rfl rfl ?_
  refine WL.no rfl rfl rfl rfl rfl rfl ?_
  refine WL.no rfl rfl rfl rfl rfl rfl ?_
  refine WL.no rfl rfl rfl rfl rfl rfl ?_
  refine WL.ex rfl rfl rfl (Ex.pickT rfl rfl) ?_
  refine WL.ex rfl rfl rfl (Ex.mv rfl) ?_
  refine WL.no rfl rfl rfl rfl rfl rfl ?_
  refine WL.no rfl rfl rfl rfl rfl rfl ?_
  refine WL.ex rfl rfl rfl (Ex.pickT rfl rfl) ?_
  refine WL.ex rfl rfl rfl (Ex.mv rfl) ?_
  refine WL.no rfl rfl rfl rfl rfl rfl ?_
  refine WL.no rfl rfl rfl rfl rfl rfl ?_
  refine WL.no rfl rfl rfl rfl rfl rfl ?_
  refine WL.no rfl rfl rfl rfl rfl rfl ?_
  refine WL.ex rfl rfl rfl (Ex.pickT rfl rfl) ?_
  refine WL.ex rfl rfl rfl (Ex.mv rfl) ?_
  refine WL.no rfl rfl rfl rfl rfl rfl ?_
  refine WL.no rfl rfl rfl rfl rfl rfl ?_
  refine WL.no rfl rfl rfl rfl rfl rfl ?_
  refine WL.no rfl rfl rfl rfl rfl rfl ?_
  refine WL.no rfl rfl rfl rfl rfl rfl ?_
  refine WL.no rfl rfl rfl rfl rfl rfl ?_
  refine WL.no rfl rfl rfl rfl rfl rfl ?_
  refine WL.ex rfl rfl rfl (Ex.pickT rfl rfl) ?_
  refine WL.nil ?_
  refine WX.next (?_)
  refine WC.yes rfl ?_
  refine WC.seq ?_
  refine WC.region ?_
  refine WL.ex rfl rfl rfl (Ex.bld bd28 (parts := []) (l := bytesV (List.replicate 32 0)) rfl rfl rfl rfl) ?_
  refine WL.ac0 rfl rfl (Ac.stA M1 ty28 rfl rfl rfl (h32_len (by first | assumption | exact h32_0)) (bytesV_one _) (i := 0) rfl (by first | (rw [h32_len (by first | assumption | exact h32_0), h32_len (by first | assumption | exact h32_0)]; decide) | (rw [h32_len (by first | assumption | exact h32_0)]; decide) | rw [h32_len (by first | assumption | exact h32_0)])) ?_; rintro v14 w14 ⟨K14, M14⟩
  try dsimp only [List.set] at M14
  rw [splice_all _ _ (by first | rw [h32_len (by first | assumption | exact h32_0), h32_len (by first | assumption | exact h32_0)] | rw [h32_len (by first | assumption | exact h32_0)])] at M14
  refine WL.ex rfl rfl rfl (Ex.asg rfl) ?_
  refine WL.nil ?_
  refine WX.next (?_)
  refine WC.ret ?_
  refine WX.ret_then (?_)
  refine WX.retn rfl (.cell rfl (run_loadVarA ty28 (h32_len (by first | assumption | exact h32_0)) (M14.rdw (i := 0) rfl)) (.tmp rfl .nil)) rfl ?_
  exact ⟨rfl, M14.keep⟩

/- (*sponsion/tree.Tree).Root#nil -/
theorem nRoot_ok (w : World) :
    Gives Tryd.prog 14 #[.pointer none] w fun u w1 => u = .agg (bytesV (List.replicate 32 0)).toArray ∧ Keep nof w w1 := by
  have M0 := Mem.start w nof
  refine Gives.enter (n := 15) Tryd.func14 rfl Tryd.ntmps14 rfl (env := [(0, .pointer none)]) rfl ?_
  refine WC.seq ?_
  refine WC.region ?_
  refine WL.ac rfl rfl rfl (Ac.alloc M0 (l := bytesV (List.replicate 32 0)) (by kernel_rfl)) ?_; rintro v1 w1 ⟨go, rfl, hg1, K1, M1⟩
  refine WL.nil ?_
  refine WX.next (?_)
  refine WC.seq ?_
  refine WC.region ?_
  refine WL.ex rfl rfl rfl (Ex.mv rfl) ?_
  refine WL.ex rfl rfl rfl (Ex.mv rfl) ?_
  refine WL.ac rfl rfl rfl (Ac.call rfl Tryd.func16 nm16 rfl (nLen_ok w1)) ?_; rintro v4 w4 ⟨rfl, K4⟩
  have M4 := M1.step K4
  refine WL.ex rfl rfl rfl (Ex.mv rfl) ?_
  refine WL.ac rfl rfl rfl (Ac.call rfl Tryd.func28 nm28 rfl (nDepth_ok w4)) ?_; rintro v6 w6 ⟨rfl, K6⟩
  have M6 := M4.step K6
  refine WL.ac rfl rfl rfl (Ac.call rfl Tryd.func23 nm23 rfl (nNode_ok w6 0 0 0)) ?_; rintro v7 w7 ⟨rfl, K7⟩
  have M7 := M6.step K7
  refine WL.ex rfl rfl rfl (Ex.mv rfl) ?_
  refine WL.ex rfl rfl rfl (Ex.ext rfl rfl) ?_
  refine WL.ex rfl rfl rfl (Ex.ext rfl rfl) ?_
  refine WL.ac rfl rfl rfl (Ac.alloc M7 (l := bytesV (List.replicate 32 0)) (by kernel_rfl)) ?_; rintro v11 w11 ⟨gr, rfl, hg11, K11, M11⟩
  refine WL.ac0 rfl rfl (Ac.stA M11 ty28 rfl rfl rfl (h32_len (by first | assumption | exact h32_0)) (bytesV_one _) (i := 0) rfl (by first | (rw [h32_len (by first | assumption | exact h32_0), h32_len (by first | assumption | exact h32_0)]; decide) | (rw [h32_len (by first | assumption | exact h32_0)]; decide) | rw [h32_len (by first | assumption | exact h32_0)])) ?_; rintro v12 w12 ⟨K12, M12⟩
  try dsimp only [List.set] at M12
  rw [splice_all _ _ (by first | rw [h32_len (by first | assumption | exact h32_0), h32_len (by first | assumption | exact h32_0)] | rw [h32_len (by first | assumption | exact h32_0)])] at M12
  refine WL.ex rfl rfl rfl (Ex.asg rfl) ?_
  refine WL.nil ?_
  refine WX.next (?_)
  refine WC.seq ?_
  refine WC.region ?_
  refine WL.ex rfl rfl rfl (Ex.loadA ty28 rfl (h32_len (by first | assumption | exact h32_0)) (M12.rdw (i := 0) rfl)) ?_
  refine WL.ac0 rfl rfl (Ac.stA M12 ty28 rfl rfl rfl (h32_len (by first | assumption | exact h32_0)) (bytesV_one _) (i := 1) rfl (by first | (rw [h32_len (by first | assumption | exact h32_0), h32_len (by first | assumption | exact h32_0)]; decide) | (rw [h32_len (by first | assumption | exact h32_0)]; decide) | rw [h32_len (by first | assumption | exact h32_0)])) ?_; rintro v15 w15 ⟨K15, M15⟩
  try dsimp only [List.set] at M15
  rw [splice_all _ _ (by first | rw [h32_len (by first | assumption | exact h32_0), h32_len (by first | assumption | exact h32_0)] | rw [h32_len (by first | assumption | exact h32_0)])] at M15
  refine WL.nil ?_
  refine WX.next (?_)
  refine WC.ret ?_
  refine WX.retc rfl rfl (run_loadVarA ty28 (h32_len (by first | assumption | exact h32_0)) (M15.rdw (i := 1) rfl)) ?_
  exact ⟨rfl, M15.keep⟩

end Go.Proofs.YtfgikoilgmddhaaDoor
