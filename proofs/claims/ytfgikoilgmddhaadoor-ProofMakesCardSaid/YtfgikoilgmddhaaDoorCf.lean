/- Walks, written by gen.py off the translation's own print: each says what the Go function comes to. -/
import Derived.Test.YtfgikoilgmddhaaDoorCe
set_option linter.unusedVariables false
set_option linter.unusedSimpArgs false
namespace Go.Proofs.YtfgikoilgmddhaaDoor
open Go.Sx Go.RowKit
attribute [local irreducible] Ac Ex WL WC WX WP Gives

/- sponsion/digest.Sum -/
theorem dsum_ok (w : World) (A : Option Addr) (c : Nat) (ps : List SV) (hr : RdP w A ps) (hT : Tabs w) (hb : (flatP ps).length ≤ 1000000000000) (hps : ps.length ≤ 1099511627776) :
    Gives Tryd.prog 42 #[.slice A ps.length c] w fun u w1 => u = .agg (bytesV (sha (flatP ps))).toArray ∧ Keep nof w w1 := by
  have M0 := Mem.start w nof
  have hs32 : H32 (sha (flatP ps)) := sha_length _
  refine Gives.enter (n := 7) Tryd.func42 rfl Tryd.ntmps42 rfl (env := [(0, .slice A ps.length c)]) rfl ?_
  refine WC.seq ?_
  refine WC.region ?_
  refine WL.ac rfl rfl rfl (Ac.alloc M0 (l := bytesV (List.replicate 32 0)) (by kernel_rfl)) ?_; rintro v1 w1 ⟨g1, rfl, hg1, K1, M1⟩
  refine WL.nil ?_
  refine WX.next (?_)
  refine WC.seq ?_
  refine WC.region ?_
  refine WL.ac rfl rfl rfl (Ac.call rfl Tryd.func46 nm46 rfl (dnew_ok w1 (hT.keep M1.keep))) ?_; rintro v2 w2 ⟨gs, vs, rfl, N2⟩
  have M2 := M1.new N2
  have hfr : ∀ b ∈ (stR gs vs []).fp, w.heap.size ≤ b := fun b hb => Nat.le_trans M1.keep.size (N2.fresh b hb)
  refine WL.ex rfl rfl rfl (Ex.mv rfl) ?_
  refine WL.ac rfl rfl rfl (Ac.call rfl Tryd.func47 nm47 rfl (sadd_ok w2 gs vs [] A c ps (M2.get (i := 0) rfl) ((RdA.of_old hr hfr).keep M2.keep) (hT.keep M2.keep) (hT.fresh (hfr _ (by simp [sep, blk]))) (by simp; omega) hps (fun b hb => hT.fresh (hfr b hb)))) ?_; rintro v4 w4 ⟨rfl, v6, T4⟩
  rw [List.nil_append] at T4
  have M4 := M2.turned (i := 0) rfl T4
  try dsimp only [List.set] at M4
  refine WL.ac rfl rfl rfl (Ac.call rfl Tryd.func48 nm48 rfl (ssum_ok w4 _ _ _ (M4.get (i := 0) rfl) (hT.keep M4.keep) hb)) ?_; rintro v5 w5 ⟨rfl, K5⟩
  have M5 := M4.step K5
  refine WL.ac0 rfl rfl (Ac.stA M5 ty28 rfl rfl rfl (h32_len hs32) (bytesV_one _) (i := 1) rfl (by rw [h32_len hs32, h32_len h32_0]; decide)) ?_; rintro v6 w6 ⟨K6, M6⟩
  try dsimp only [List.set] at M6
  rw [splice_all _ _ (by rw [h32_len hs32, h32_len h32_0])] at M6
  refine WL.nil ?_
  refine WX.next (?_)
  refine WC.ret ?_
  refine WX.retc rfl rfl (run_loadVarA ty28 (by exact h32_len hs32) (M6.rdw (i := 1) rfl)) ?_
  exact ⟨rfl, M6.keep⟩

end Go.Proofs.YtfgikoilgmddhaaDoor
