/- Walks, written by gen.py off the translation's own print: each says what the Go function comes to. -/
import Derived.Test.YtfncnpnjhcaphaaDoorIa
set_option linter.unusedVariables false
set_option linter.unusedSimpArgs false
namespace Go.Proofs.YtfncnpnjhcaphaaDoor
open Go.Sx Go.RowKit
attribute [local irreducible] Ac Ex WL WC WX WP Gives sha

/- sponsion/sponsionlaw06.DomainTrees -/
theorem domainTrees_walk (w : World) (A : Option Addr) (c : Nat) (b l r : List UInt8) (hb0 : Rd w A (bytesV b)) (hl : H32 l) (hr : H32 r) (hT : Tabs w) (hR : TabR w) :
    Gives Tryd.prog 8 #[.slice A b.length c, .agg (bytesV l).toArray, .agg (bytesV r).toArray] w fun u w1 => u = .bool true ∧ Keep nof w w1 := by
  have M0 := Mem.start w nof
  refine Gives.enter (n := 31) Tryd.func8 rfl Tryd.ntmps8 rfl (env := [(0, .slice A b.length c), (1, .agg (bytesV l).toArray), (2, .agg (bytesV r).toArray)]) rfl ?_
  refine WC.seq ?_
  refine WC.region ?_
  refine WL.ac rfl rfl rfl (Ac.box M0 rfl rfl) ?_; rintro v1 w1 ⟨gl, rfl, hg1, K1, M1⟩
  refine WL.ac rfl rfl rfl (Ac.box M1 rfl rfl) ?_; rintro v2 w2 ⟨gr, rfl, hg2, K2, M2⟩
  refine WL.ex rfl rfl rfl (Ex.asg rfl) ?_
  refine WL.nil ?_
  refine WX.next (?_)
  refine WC.seq ?_
  refine WC.seq ?_
  refine WC.region ?_
  refine WL.ac rfl rfl rfl (Ac.call rfl Tryd.func20 nm20 rfl (lives06_ok w2)) ?_; rintro v4 w4 ⟨rfl, K4⟩
  have M4 := M2.step K4
  refine WL.ex rfl rfl rfl (Ex.not rfl) ?_
  refine WL.ex rfl rfl rfl (Ex.mv rfl) ?_
  refine WL.yes rfl rfl rfl rfl ?_
  refine WL.ex rfl rfl rfl (Ex.mv rfl) ?_
  refine WL.yes rfl rfl rfl rfl ?_
  refine WL.ex rfl rfl rfl (Ex.len Tryd.underlying22 rfl) ?_
  refine WL.yes rfl rfl rfl rfl ?_
  refine WL.ex rfl rfl rfl (Ex.gtr rfl rfl) ?_
  refine WL.ex rfl rfl rfl (Ex.pickF rfl rfl) ?_
  refine WL.nil ?_
  refine WX.next (?_)
  refine WC.cond_dec rfl (fun hc13 => ?_) (fun hc13 => ?_)
  · skip
    refine WC.seq ?_
    refine WC.region ?_
    refine WL.ac rfl rfl rfl (Ac.call rfl Tryd.func20 nm20 rfl (lives06_ok w4)) ?_; rintro v11 w11 ⟨rfl, K11⟩
    have M11 := M4.step K11
    refine WL.ex rfl rfl rfl (Ex.asg rfl) ?_
    refine WL.nil ?_
    refine WX.next (?_)
    refine WC.ret ?_
    refine WX.ret_then (?_)
    refine WX.ret1 rfl rfl ?_
    exact ⟨rfl, M11.keep⟩
  · have hb2 : b.length ≤ 200 := by omega
    refine WC.skip ?_
    refine WX.next (?_)
    refine WC.seq ?_
    refine WC.draw (Keep nof w4.drew) [4] (.one 0 0 (.one 2 0 (.one 3 1 (.two 1 (.one 4 2 (.one 5 2 (.one 6 0 (.one 7 0 (.one 8 1 (.one 9 1 (.one 11 1 (.one 12 1 (.one 10 2 (.one 13 2 (.one 14 0 (.one 15 0 (.one 16 0 .nil))))))))))))) 4 (.one 1 2 (.one 5 2 (.one 6 0 (.one 7 0 (.one 8 1 (.one 9 1 (.one 11 1 (.one 12 1 (.one 10 2 (.one 13 2 (.one 14 0 (.one 15 0 (.one 16 0 .nil))))))))))))))))) mixed (by kernel_rfl) (by kernel_rfl) (by kernel_rfl) (HQ.then_ HQ.body) ?_
    obtain ⟨w13, hw13⟩ : ∃ v, v = w4.drew := ⟨_, rfl⟩
    have D13 : Keep nof w4 w13 := by rw [hw13]; exact Keep.drew _ _
    have M13 := M4.step D13
    rw [← hw13]; clear hw13
    refine WP.p rfl rfl rfl rfl (fun _ => Ex.mv rfl) ?_
    refine WP.p rfl rfl rfl rfl (fun _ => Ex.mv rfl) ?_
    refine WP.q (Keep.refl _ _) rfl rfl rfl rfl (fun w' hS => Ex.cvBS Tryd.underlying22 Tryd.underlying5 Tryd.underlying9 rfl ((M13.rd hb0).keep0 hS)) ?_
    refine WP.two ?_ ?_
    · skip
      refine WP.as rfl rfl rfl rfl (Ac.call rfl Tryd.func27 nm27 rfl (leaf_ok w13 A c b (M13.rd hb0) (hT.keep M13.keep) (by omega))) ?_; rintro v17 w17 ⟨rfl, K17⟩
      refine ⟨Keep nof w17, fun u h => K17.trans h, Keep.refl _ _, ?_⟩
      have M17 := M13.step K17
      refine WP.a rfl rfl rfl rfl (Ac.bs M17 (parts := [(0, .tmp 18)]) (l := [str b]) rfl rfl (LitS.one el41 rfl)) ?_; rintro v18 w18 ⟨g2, rfl, hg18, K18, M18⟩; refine .inl ⟨rfl, Keep nof w18, ?_⟩
      refine WP.as rfl rfl rfl rfl (Ac.call rfl Tryd.func26 nm26 rfl (refOf_ok w18 0 _ _ [b] (by decide) (M18.rdw (i := 0) rfl) (hR.keep0 M18.keep) (by simp; omega) (by simp [txt_length]; omega) (by simp))) ?_; rintro v19 w19 ⟨rfl, K19⟩
      refine ⟨Keep nof w19, fun u h => K19.trans h, Keep.refl _ _, ?_⟩
      rw [show dOf 0 [b] = dLeaf b from rfl]
      have M19 := M18.step K19
      refine WP.p rfl rfl rfl rfl (fun _ => Ex.eqA rfl rfl (eqHash w (dLeaf_len b) (dLeaf_len b))) ?_
      rw [decide_eq_true rfl]
      refine WP.p rfl rfl rfl rfl (fun _ => Ex.mv rfl) ?_
      refine WP.qy (Keep.refl _ _) rfl rfl rfl rfl rfl rfl (fun w' hS => Ex.loadA ty25 rfl (h32_len (by first | assumption | exact h32_0)) ((M19.rdw (i := 2) rfl).keep0 hS)) ?_
      refine WP.qy (Keep.refl _ _) rfl rfl rfl rfl rfl rfl (fun w' hS => Ex.loadA ty25 rfl (h32_len (by first | assumption | exact h32_0)) ((M19.rdw (i := 1) rfl).keep0 hS)) ?_
      refine WP.qy (Keep.refl _ _) rfl rfl rfl rfl rfl rfl (fun w' hS => Ex.loadA ty25 rfl (h32_len (by first | assumption | exact h32_0)) ((M19.rdw (i := 2) rfl).keep0 hS)) ?_
      refine WP.qy (Keep.refl _ _) rfl rfl rfl rfl rfl rfl (fun w' hS => Ex.loadA ty25 rfl (h32_len (by first | assumption | exact h32_0)) ((M19.rdw (i := 1) rfl).keep0 hS)) ?_
      refine WP.ays rfl rfl rfl rfl rfl rfl (Ac.call rfl Tryd.func28 nm28 rfl (node_ok w19 _ _ hl hr (hT.keep M19.keep))) ?_; rintro v26 w26 ⟨rfl, K26⟩
      refine ⟨Keep nof w26, fun u h => K26.trans h, Keep.refl _ _, ?_⟩
      have M26 := M19.step K26
      refine WP.ays rfl rfl rfl rfl rfl rfl (Ac.call rfl Tryd.func29 nm29 rfl (refNode_ok w26 _ _ hl hr (hR.keep0 M26.keep))) ?_; rintro v27 w27 ⟨rfl, K27⟩
      refine ⟨Keep nof w27, fun u h => K27.trans h, Keep.refl _ _, ?_⟩
      have M27 := M26.step K27
      refine WP.py rfl rfl rfl rfl rfl rfl (fun _ => Ex.eqA rfl rfl (eqHash w (dNode_len l r) (dNode_len l r))) ?_
      rw [decide_eq_true rfl]
      refine WP.p rfl rfl rfl rfl (fun _ => Ex.pickT rfl rfl) ?_
      refine WP.p rfl rfl rfl rfl (fun _ => Ex.asg rfl) ?_
      refine WP.nil ?_
      refine WX.next (?_)
      refine WC.ret ?_
      refine WX.ret1 rfl rfl ?_
      exact ⟨rfl, M27.keep⟩
    · skip
      refine WP.a rfl rfl rfl rfl (Ac.bs M13 (parts := [(0, .tmp 18)]) (l := [str b]) rfl rfl (LitS.one el41 rfl)) ?_; rintro v31 w31 ⟨g2, rfl, hg31, K31, M31⟩; refine .inl ⟨rfl, Keep nof w31, ?_⟩
      refine WP.as rfl rfl rfl rfl (Ac.call rfl Tryd.func27 nm27 rfl (leaf_ok w31 A c b (M31.rd hb0) (hT.keep M31.keep) (by omega))) ?_; rintro v32 w32 ⟨rfl, K32⟩
      refine ⟨Keep nof w32, fun u h => K32.trans h, Keep.refl _ _, ?_⟩
      have M32 := M31.step K32
      refine WP.as rfl rfl rfl rfl (Ac.call rfl Tryd.func26 nm26 rfl (refOf_ok w32 0 _ _ [b] (by decide) (M32.rdw (i := 0) rfl) (hR.keep0 M32.keep) (by simp; omega) (by simp [txt_length]; omega) (by simp))) ?_; rintro v33 w33 ⟨rfl, K33⟩
      refine ⟨Keep nof w33, fun u h => K33.trans h, Keep.refl _ _, ?_⟩
      rw [show dOf 0 [b] = dLeaf b from rfl]
      have M33 := M32.step K33
      refine WP.p rfl rfl rfl rfl (fun _ => Ex.eqA rfl rfl (eqHash w (dLeaf_len b) (dLeaf_len b))) ?_
      rw [decide_eq_true rfl]
      refine WP.p rfl rfl rfl rfl (fun _ => Ex.mv rfl) ?_
      refine WP.qy (Keep.refl _ _) rfl rfl rfl rfl rfl rfl (fun w' hS => Ex.loadA ty25 rfl (h32_len (by first | assumption | exact h32_0)) ((M33.rdw (i := 2) rfl).keep0 hS)) ?_
      refine WP.qy (Keep.refl _ _) rfl rfl rfl rfl rfl rfl (fun w' hS => Ex.loadA ty25 rfl (h32_len (by first | assumption | exact h32_0)) ((M33.rdw (i := 1) rfl).keep0 hS)) ?_
      refine WP.qy (Keep.refl _ _) rfl rfl rfl rfl rfl rfl (fun w' hS => Ex.loadA ty25 rfl (h32_len (by first | assumption | exact h32_0)) ((M33.rdw (i := 2) rfl).keep0 hS)) ?_
      refine WP.qy (Keep.refl _ _) rfl rfl rfl rfl rfl rfl (fun w' hS => Ex.loadA ty25 rfl (h32_len (by first | assumption | exact h32_0)) ((M33.rdw (i := 1) rfl).keep0 hS)) ?_
      refine WP.ays rfl rfl rfl rfl rfl rfl (Ac.call rfl Tryd.func28 nm28 rfl (node_ok w33 _ _ hl hr (hT.keep M33.keep))) ?_; rintro v40 w40 ⟨rfl, K40⟩
      refine ⟨Keep nof w40, fun u h => K40.trans h, Keep.refl _ _, ?_⟩
      have M40 := M33.step K40
      refine WP.ays rfl rfl rfl rfl rfl rfl (Ac.call rfl Tryd.func29 nm29 rfl (refNode_ok w40 _ _ hl hr (hR.keep0 M40.keep))) ?_; rintro v41 w41 ⟨rfl, K41⟩
      refine ⟨Keep nof w41, fun u h => K41.trans h, Keep.refl _ _, ?_⟩
      have M41 := M40.step K41
      refine WP.py rfl rfl rfl rfl rfl rfl (fun _ => Ex.eqA rfl rfl (eqHash w (dNode_len l r) (dNode_len l r))) ?_
      rw [decide_eq_true rfl]
      refine WP.p rfl rfl rfl rfl (fun _ => Ex.pickT rfl rfl) ?_
      refine WP.p rfl rfl rfl rfl (fun _ => Ex.asg rfl) ?_
      refine WP.nil ?_
      refine WX.next (?_)
      refine WC.ret ?_
      refine WX.ret1 rfl rfl ?_
      exact ⟨rfl, M41.keep⟩

end Go.Proofs.YtfncnpnjhcaphaaDoor
