/- Walks, written by gen.py off the translation's own print: each says what the Go function comes to. -/
import Derived.Test.YtchmjpdkonfifaaDoorIa
import Derived.Test.YtchmjpdkonfifaaDoorHa
set_option linter.unusedVariables false
set_option linter.unusedSimpArgs false
namespace Go.Proofs.YtchmjpdkonfifaaDoor
open Go.Sx Go.RowKit
attribute [local irreducible] Ac Ex WL WC WX WP Gives sha

/- sponsion/sponsionref07.Text -/
theorem text7_ok (w : World) (t : Itt) (ht : IttOk t) :
    Gives Tryd.prog 80 #[.agg (ittC t).toArray] w fun u w1 => u = str (ittB t) ∧ Keep nof w w1 := by
  have M0 := Mem.start w nof
  have h1 := ht.ix
  have h2 := ht.tk
  have h3 := ht.ow
  have hta := ht.am
  refine Gives.enter (n := 21) Tryd.func80 rfl Tryd.ntmps80 rfl (env := [(0, .agg (ittC t).toArray)]) rfl ?_
  refine WC.seq ?_
  refine WC.region ?_
  refine WL.ac rfl rfl rfl (Ac.box M0 rfl rfl) ?_; rintro v1 w1 ⟨gi, rfl, hg1, K1, M1⟩
  refine WL.ex rfl rfl rfl (Ex.asg rfl) ?_
  refine WL.nil ?_
  refine WX.next (?_)
  refine WC.seq ?_
  refine WC.draw (Keep nof w1.drew) [] (.one 0 0 (.one 4 0 (.one 9 0 (.one 14 0 (.one 1 1 (.one 2 0 (.one 5 1 (.one 6 0 (.one 10 1 (.one 11 0 (.one 15 1 (.one 3 2 (.one 7 2 (.one 8 0 (.one 12 2 (.one 13 0 (.one 16 2 (.one 17 0 (.one 18 0 .nil))))))))))))))))))) mixed (by kernel_rfl) (by kernel_rfl) (by kernel_rfl) (HQ.then_ HQ.body) ?_
  obtain ⟨w3, hw3⟩ : ∃ v, v = w1.drew := ⟨_, rfl⟩
  have D3 : Keep nof w1 w3 := by rw [hw3]; exact Keep.drew _ _
  have M3 := M1.step D3
  rw [← hw3]; clear hw3
  refine WP.p rfl rfl rfl rfl (fun _ => Ex.fa fl50_0 rfl) ?_
  refine WP.p rfl rfl rfl rfl (fun _ => Ex.fa fl50_1 rfl) ?_
  refine WP.p rfl rfl rfl rfl (fun _ => Ex.fa fl50_2 rfl) ?_
  refine WP.p rfl rfl rfl rfl (fun _ => Ex.fa fl50_3 rfl) ?_
  refine WP.q (Keep.refl _ _) rfl rfl rfl rfl (fun w' hS => Ex.load ty46 rfl (hS.cell (M3.cell (i := 0) rfl (itt_g0 (by first | assumption | exact itt0_ok))) (fun f => f))) ?_
  refine WP.p rfl rfl rfl rfl (fun _ => Ex.cvI Tryd.underlying46 Tryd.underlying23 rfl (u64w_lt _ (by omega))) ?_
  refine WP.q (Keep.refl _ _) rfl rfl rfl rfl (fun w' hS => Ex.load ty5 rfl (hS.cell (M3.cell (i := 0) rfl (itt_g1 (by first | assumption | exact itt0_ok))) (fun f => f))) ?_
  refine WP.p rfl rfl rfl rfl (fun _ => Ex.cvI Tryd.underlying5 Tryd.underlying23 rfl (u64w_lt _ (by omega))) ?_
  refine WP.q (Keep.refl _ _) rfl rfl rfl rfl (fun w' hS => Ex.load ty5 rfl (hS.cell (M3.cell (i := 0) rfl (itt_g2 (by first | assumption | exact itt0_ok))) (fun f => f))) ?_
  refine WP.p rfl rfl rfl rfl (fun _ => Ex.cvI Tryd.underlying5 Tryd.underlying23 rfl (u64w_lt _ (by omega))) ?_
  refine WP.q (Keep.refl _ _) rfl rfl rfl rfl (fun w' hS => Ex.loadA ty48 rfl (int4_len (IttOk.am (by first | assumption | exact itt0_ok))) ((M3.rdt (i := 0) rfl (itt_g3 (by first | assumption | exact itt0_ok))).keep0 hS)) ?_
  refine WP.as rfl rfl rfl rfl (Ac.call rfl Tryd.func96 nm96 rfl (num4_ok w3 _ _ (by first | omega | decide) (by first | omega | decide))) ?_; rintro v15 w15 ⟨rfl, K15⟩
  refine ⟨Keep nof w15, fun u h => K15.trans h, Keep.refl _ _, ?_⟩
  have M15 := M3.step K15
  refine WP.as rfl rfl rfl rfl (Ac.call rfl Tryd.func96 nm96 rfl (num4_ok w15 _ _ (by first | omega | decide) (by first | omega | decide))) ?_; rintro v16 w16 ⟨rfl, K16⟩
  refine ⟨Keep nof w16, fun u h => K16.trans h, Keep.refl _ _, ?_⟩
  have M16 := M15.step K16
  refine WP.p rfl rfl rfl rfl (fun _ => Ex.addS rfl rfl (by first | (simp; done) | (simp; omega) | omega)) ?_
  refine WP.as rfl rfl rfl rfl (Ac.call rfl Tryd.func96 nm96 rfl (num4_ok w16 _ _ (by first | omega | decide) (by first | omega | decide))) ?_; rintro v18 w18 ⟨rfl, K18⟩
  refine ⟨Keep nof w18, fun u h => K18.trans h, Keep.refl _ _, ?_⟩
  have M18 := M16.step K18
  refine WP.p rfl rfl rfl rfl (fun _ => Ex.addS rfl rfl (by first | (simp; done) | (simp; omega) | omega)) ?_
  refine WP.as rfl rfl rfl rfl (Ac.call rfl Tryd.func97 nm97 rfl (int4_ok w18 _ ‹_›)) ?_; rintro v20 w20 ⟨rfl, K20⟩
  refine ⟨Keep nof w20, fun u h => K20.trans h, Keep.refl _ _, ?_⟩
  have M20 := M18.step K20
  refine WP.p rfl rfl rfl rfl (fun _ => Ex.addS rfl rfl (by first | (simp; done) | (simp; omega) | omega)) ?_
  refine WP.p rfl rfl rfl rfl (fun _ => Ex.asg rfl) ?_
  refine WP.nil ?_
  refine WX.next (?_)
  refine WC.ret ?_
  refine WX.ret1 rfl rfl ?_
  exact ⟨congrArg str (by simp only [ittB, List.append_assoc]), M20.keep⟩

/- sponsion/sponsionref07.Leaf -/
theorem refLeaf_ok (w : World) (t : Itt) (ht : IttOk t) (hR : TabR w) :
    Gives Tryd.prog 46 #[.agg (ittC t).toArray] w fun u w1 => u = .agg (bytesV (iLeaf t)).toArray ∧ Keep nof w w1 := by
  have M0 := Mem.start w nof
  have hs32 := iLeaf_len t
  refine Gives.enter (n := 7) Tryd.func46 rfl Tryd.ntmps46 rfl (env := [(0, .agg (ittC t).toArray)]) rfl ?_
  refine WC.seq ?_
  refine WC.region ?_
  refine WL.ac rfl rfl rfl (Ac.box M0 rfl rfl) ?_; rintro v1 w1 ⟨gi, rfl, hg1, K1, M1⟩
  refine WL.ac rfl rfl rfl (Ac.alloc M1 (l := bytesV (List.replicate 32 0)) (by kernel_rfl)) ?_; rintro v2 w2 ⟨g1, rfl, hg2, K2, M2⟩
  refine WL.nil ?_
  refine WX.next (?_)
  refine WC.seq ?_
  refine WC.region ?_
  refine WL.ex rfl rfl rfl (Ex.loadA ty50 rfl (itt_len (by first | assumption | exact itt0_ok)) (M2.rdw (i := 1) rfl)) ?_
  refine WL.ac rfl rfl rfl (Ac.call rfl Tryd.func80 nm80 rfl (text7_ok w2 t ht)) ?_; rintro v4 w4 ⟨rfl, K4⟩
  have M4 := M2.step K4
  obtain ⟨B, hB⟩ : ∃ B, B = ittB t := ⟨_, rfl⟩
  have hBl : B.length = 38 := by rw [hB]; simp
  have hBi : dOf 3 [B] = iID t := by rw [hB]; rfl
  have hBf : dLeaf B = iLeaf t := by rw [hB]; rfl
  rw [← hB]
  refine WL.ac rfl rfl rfl (Ac.bs M4 (parts := [(0, .tmp 4)]) (l := [str B]) rfl rfl (LitS.one el135 rfl)) ?_; rintro v5 w5 ⟨g2, rfl, hg5, K5, M5⟩
  refine WL.ac rfl rfl rfl (Ac.call rfl Tryd.func79 nm79 rfl (refOf_ok w5 0 _ _ [B] (by decide) (M5.rdw (i := 0) rfl) (hR.keep0 M5.keep) (by simp; omega) (by rw [txt_1]; omega) (by simp))) ?_; rintro v6 w6 ⟨rfl, K6⟩
  rw [show dOf 0 [B] = iLeaf t from hBf]
  have M6 := M5.step K6
  refine WL.ac0 rfl rfl (Ac.stA M6 ty31 rfl rfl rfl (h32_len (by first | assumption | exact h32_0)) (bytesV_one _) (i := 1) rfl (by first | (rw [h32_len (by first | assumption | exact h32_0), h32_len (by first | assumption | exact h32_0)]; decide) | (rw [h32_len (by first | assumption | exact h32_0)]; decide) | rw [h32_len (by first | assumption | exact h32_0)])) ?_; rintro v7 w7 ⟨K7, M7⟩
  try dsimp only [List.set] at M7
  rw [splice_all _ _ (by first | rw [h32_len (by first | assumption | exact h32_0), h32_len (by first | assumption | exact h32_0)] | rw [h32_len (by first | assumption | exact h32_0)])] at M7
  refine WL.nil ?_
  refine WX.next (?_)
  refine WC.ret ?_
  refine WX.retc rfl rfl (run_loadVarA ty31 (h32_len (by first | assumption | exact h32_0)) (M7.rdw (i := 1) rfl)) ?_
  exact ⟨rfl, M7.keep⟩

end Go.Proofs.YtchmjpdkonfifaaDoor
