/- Walks, written by gen.py off the translation's own print: each says what the Go function comes to. -/
import Derived.Test.YtfgikoilgmddhaaDoorTc
set_option linter.unusedVariables false
set_option linter.unusedSimpArgs false
namespace Go.Proofs.YtfgikoilgmddhaaDoor
open Go.Sx Go.RowKit
attribute [local irreducible] Ac Ex WL WC WX WP Gives sha

/- (*sponsion/tree.Tree).Root -/
theorem tRoot_ok (w : World) (g gl ge d : Nat) (vs : List Value) (ls : Hs) (hTr : TreeS w g gl ge d vs (lvOf dNode e0 d ls)) (hE : ES w ge d) (hls : ∀ a ∈ ls, H32 a) (hd : d ≤ 32) (hT : Tabs w) :
    Gives Tryd.prog 14 #[.pointer (some ⟨g, 0, none⟩)] w fun u w1 => u = .agg (bytesV (nd dNode e0 ls d 0)).toArray ∧ Keep nof w w1 := by
  have M0 := Mem.start w nof
  have hl0 := lvOf_get (N := dNode) (e := e0) (d := d) (ls := ls) (j := 0) (by omega)
  rw [levOf_zero] at hl0
  have hn64 : ls.length < 18446744073709551616 := by
    obtain ⟨A, c, _, _, h1, h2⟩ := hTr.at hl0
    unfold maxLen at h2
    omega
  have hr32 := nd32 hls d 0
  have hyes : tNode d ls ls.length (d : Int) 0 = (nd dNode e0 ls d 0, true) := tNode_yes (Nat.le_refl _) (Nat.le_refl _) (by simp) (by rw [List.take_length])
  refine Gives.enter (n := 15) Tryd.func14 rfl Tryd.ntmps14 rfl (env := [(0, .pointer (some ⟨g, 0, none⟩))]) rfl ?_
  refine WC.seq ?_
  refine WC.region ?_
  refine WL.ac rfl rfl rfl (Ac.alloc M0 (l := bytesV (List.replicate 32 0)) (by kernel_rfl)) ?_; rintro v1 w1 ⟨go, rfl, hg1, K1, M1⟩
  refine WL.nil ?_
  refine WX.next (?_)
  refine WC.seq ?_
  refine WC.region ?_
  refine WL.ex rfl rfl rfl (Ex.mv rfl) ?_
  refine WL.ex rfl rfl rfl (Ex.mv rfl) ?_
  refine WL.ac rfl rfl rfl (Ac.call rfl Tryd.func16 nm16 rfl (tLen_ok w1 g gl ge d vs _ ls (hTr.keep M1.keep) hl0)) ?_; rintro v4 w4 ⟨rfl, K4⟩
  have M4 := M1.step K4
  refine WL.ex rfl rfl rfl (Ex.mv rfl) ?_
  refine WL.ac rfl rfl rfl (Ac.call rfl Tryd.func28 nm28 rfl (tDepth_ok w4 g gl ge d vs _ (hTr.keep M4.keep) hd)) ?_; rintro v6 w6 ⟨rfl, K6⟩
  have M6 := M4.step K6
  refine WL.ac rfl rfl rfl (Ac.call rfl Tryd.func23 nm23 rfl (tNode_ok w6 g gl ge d vs ls ls.length (d : Int) 0 (hTr.keep M6.keep) (hE.keep M6.keep) hls hn64 (by omega) (by decide) hd (hT.keep M6.keep))) ?_; rintro v7 w7 ⟨rfl, K7⟩
  rw [hyes]
  have M7 := M6.step K7
  refine WL.ex rfl rfl rfl (Ex.mv rfl) ?_
  refine WL.ex rfl rfl rfl (Ex.ext rfl rfl) ?_
  refine WL.ex rfl rfl rfl (Ex.ext rfl rfl) ?_
  refine WL.ac rfl rfl rfl (Ac.alloc M7 (l := bytesV (List.replicate 32 0)) (by kernel_rfl)) ?_; rintro v11 w11 ⟨gr, rfl, hg11, K11, M11⟩
  refine WL.ac0 rfl rfl (Ac.stA M11 ty28 rfl rfl rfl (h32_len (by first | assumption | exact h32_0)) (bytesV_one _) (i := 0) rfl (by first | (rw [h32_len (by first | assumption | exact h32_0), h32_len (by first | assumption | exact h32_0)]; decide) | (rw [h32_len (by first | assumption | exact h32_0)]; decide) | rw [h32_len (by first | assumption | exact h32_0)])) ?_; rintro v12 w12 ⟨K12, M12⟩
  try dsimp only [List.set] at M12
  rw [splice_all _ _ (by first | rw [h32_len (by first | assumption | exact h32_0), h32_len (by first | assumption | exact h32_0)] | rw [h32_len (by first | assumption | exact h32_0)])] at M12
  refine WL.ex rfl rfl rfl (Ex.asg rfl) ?_
  refine WL.nil ?_
  refine WX.next (?_)
  refine WC.seq ?_
  refine WC.region ?_
  refine WL.ex rfl rfl rfl (Ex.loadA ty28 rfl (h32_len (by first | assumption | exact h32_0)) (M12.rdw (i := 0) rfl)) ?_
  refine WL.ac0 rfl rfl (Ac.stA M12 ty28 rfl rfl rfl (h32_len (by first | assumption | exact h32_0)) (bytesV_one _) (i := 1) rfl (by first | (rw [h32_len (by first | assumption | exact h32_0), h32_len (by first | assumption | exact h32_0)]; decide) | (rw [h32_len (by first | assumption | exact h32_0)]; decide) | rw [h32_len (by first | assumption | exact h32_0)])) ?_; rintro v15 w15 ⟨K15, M15⟩
  try dsimp only [List.set] at M15
  rw [splice_all _ _ (by first | rw [h32_len (by first | assumption | exact h32_0), h32_len (by first | assumption | exact h32_0)] | rw [h32_len (by first | assumption | exact h32_0)])] at M15
  refine WL.nil ?_
  refine WX.next (?_)
  refine WC.ret ?_
  refine WX.retc rfl rfl (run_loadVarA ty28 (h32_len (by first | assumption | exact h32_0)) (M15.rdw (i := 1) rfl)) ?_
  exact ⟨rfl, M15.keep⟩

end Go.Proofs.YtfgikoilgmddhaaDoor
