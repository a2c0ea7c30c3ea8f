/- Walks, written by gen.py off the translation's own print: each says what the Go function comes to. -/
import Derived.Test.YtfncnpnjhcaphaaDoorJc
set_option linter.unusedVariables false
set_option linter.unusedSimpArgs false
namespace Go.Proofs.YtfncnpnjhcaphaaDoor
open Go.Sx Go.RowKit
attribute [local irreducible] Ac Ex WL WC WX WP Gives sha

/- sponsion/sponsionlaw07.IntentPuts -/
theorem intentPuts_walk (w : World) (x : Itt) (hx : IttOk x) (hT : Tabs w) (hR : TabR w) :
    Gives Tryd.prog 11 #[.agg (ittC x).toArray] w fun u w1 => u = .bool true ∧ Keep nof w w1 := by
  have M0 := Mem.start w nof
  obtain ⟨B, hB⟩ : ∃ B, B = ittB x := ⟨_, rfl⟩
  have hBl : B.length = 38 := by rw [hB]; simp
  obtain ⟨Y, hY⟩ : ∃ Y, Y = (iRead B).1 := ⟨_, rfl⟩
  have hYo : IttOk Y := by rw [hY]; exact iRead_ok _
  obtain ⟨E, hE⟩ : ∃ E, E = (iRead B).2 := ⟨_, rfl⟩
  have hR2 := iRead_B hx
  rw [← hB] at hR2
  refine Gives.enter (n := 61) Tryd.func11 rfl Tryd.ntmps11 rfl (env := [(0, .agg (ittC x).toArray)]) rfl ?_
  refine WC.seq ?_
  refine WC.region ?_
  refine WL.ac rfl rfl rfl (Ac.box M0 rfl rfl) ?_; rintro v1 w1 ⟨gi, rfl, hg1, K1, M1⟩
  refine WL.ex rfl rfl rfl (Ex.asg rfl) ?_
  refine WL.nil ?_
  refine WX.next (?_)
  refine WC.seq ?_
  refine WC.seq ?_
  refine WC.region ?_
  refine WL.ac rfl rfl rfl (Ac.call rfl Tryd.func32 nm32 rfl (lives07_ok w1)) ?_; rintro v3 w3 ⟨rfl, K3⟩
  have M3 := M1.step K3
  refine WL.ex rfl rfl rfl (Ex.not rfl) ?_
  refine WL.nil ?_
  refine WX.next (?_)
  refine WC.no rfl ?_
  refine WC.skip ?_
  refine WX.next (?_)
  refine WC.seq ?_
  refine WC.region ?_
  refine WL.ex rfl rfl rfl (Ex.loadA ty57 rfl (itt_len (by first | assumption | exact itt0_ok)) (M3.rdw (i := 0) rfl)) ?_
  refine WL.ac rfl rfl rfl (Ac.call rfl Tryd.func33 nm33 rfl (iBytes_ok w3 _ hx)) ?_; rintro v6 w6 N6
  have M6 := M3.new N6
  obtain ⟨A2, c2, rfl⟩ := own_slice (M6.get (i := 0) rfl)
  rw [← hB] at M6 ⊢
  refine WL.ex rfl rfl rfl (Ex.asg rfl) ?_
  refine WL.nil ?_
  refine WX.next (?_)
  refine WC.seq ?_
  refine WC.region ?_
  refine WL.ex rfl rfl rfl (Ex.mv rfl) ?_
  refine WL.ac rfl rfl rfl (Ac.call rfl Tryd.func36 nm36 rfl (iRead_walk w6 A2 c2 B (M6.rdr (i := 0) rfl) (by omega))) ?_; rintro v9 w9 ⟨rfl, K9⟩
  rw [← hY, ← hE]
  have M9 := M6.step K9
  refine WL.ex rfl rfl rfl (Ex.mv rfl) ?_
  refine WL.ex rfl rfl rfl (Ex.ext rfl rfl) ?_
  refine WL.ex rfl rfl rfl (Ex.ext rfl rfl) ?_
  refine WL.ac rfl rfl rfl (Ac.alloc M9 (l := ittC itt0) (by kernel_rfl)) ?_; rintro v13 w13 ⟨gy, rfl, hg13, K13, M13⟩
  refine WL.ac0 rfl rfl (Ac.stA M13 ty57 rfl rfl rfl (itt_len hYo) itt_one (i := 0) rfl (by rw [itt_len hYo, itt_len itt0_ok]; decide)) ?_; rintro v14 w14 ⟨K14, M14⟩
  try dsimp only [List.set] at M14
  rw [splice_all _ _ (by rw [itt_len hYo, itt_len itt0_ok])] at M14
  refine WL.ex rfl rfl rfl (Ex.asg rfl) ?_
  refine WL.nil ?_
  refine WX.next (?_)
  refine WC.seq ?_
  refine WC.seq ?_
  refine WC.draw (Keep nof w14.drew) [] (.one 0 0 (.one 1 1 (.one 2 1 (.one 3 2 (.one 4 0 (.one 5 0 (.one 6 1 (.one 8 1 (.one 7 2 (.one 9 2 (.one 10 0 (.one 11 0 (.one 12 0 (.one 13 1 (.one 15 1 (.one 14 2 (.one 16 2 (.one 17 0 (.one 18 0 .nil))))))))))))))))))) mixed (by kernel_rfl) (by kernel_rfl) (by kernel_rfl) (HQ.then_ (HQ.then_ HQ.body)) ?_
  obtain ⟨w16, hw16⟩ : ∃ v, v = w14.drew := ⟨_, rfl⟩
  have D16 : Keep nof w14 w16 := by rw [hw16]; exact Keep.drew _ _
  have M16 := M14.step D16
  rw [← hw16]; clear hw16
  refine WP.p rfl rfl rfl rfl (fun _ => Ex.mv rfl) ?_
  refine WP.q (Keep.refl _ _) rfl rfl rfl rfl (fun w' hS => Ex.cvBS Tryd.underlying22 Tryd.underlying5 Tryd.underlying9 rfl ((M16.rdr (i := 1) rfl).keep0 hS)) ?_
  refine WP.q (Keep.refl _ _) rfl rfl rfl rfl (fun w' hS => Ex.loadA ty57 rfl (itt_len (by first | assumption | exact itt0_ok)) ((M16.rdw (i := 2) rfl).keep0 hS)) ?_
  refine WP.as rfl rfl rfl rfl (Ac.call rfl Tryd.func37 nm37 rfl (text7_ok w16 _ hx)) ?_; rintro v20 w20 ⟨rfl, K20⟩
  refine ⟨Keep nof w20, fun u h => K20.trans h, Keep.refl _ _, ?_⟩
  have M20 := M16.step K20
  refine WP.p rfl rfl rfl rfl (fun _ => Ex.neS rfl rfl) ?_
  rw [decide_eq_true hB]
  refine WP.p rfl rfl rfl rfl (fun _ => Ex.mv rfl) ?_
  refine WP.qy (Keep.refl _ _) rfl rfl rfl rfl rfl rfl (fun w' hS => Ex.loadA ty57 rfl (itt_len (by first | assumption | exact itt0_ok)) ((M20.rdw (i := 2) rfl).keep0 hS)) ?_
  refine WP.qy (Keep.refl _ _) rfl rfl rfl rfl rfl rfl (fun w' hS => Ex.loadA ty57 rfl (itt_len (by first | assumption | exact itt0_ok)) ((M20.rdw (i := 2) rfl).keep0 hS)) ?_
  refine WP.ays rfl rfl rfl rfl rfl rfl (Ac.call rfl Tryd.func34 nm34 rfl (iID_ok w20 _ hx (hT.keep M20.keep))) ?_; rintro v25 w25 ⟨rfl, K25⟩
  refine ⟨Keep nof w25, fun u h => K25.trans h, Keep.refl _ _, ?_⟩
  have M25 := M20.step K25
  refine WP.ays rfl rfl rfl rfl rfl rfl (Ac.call rfl Tryd.func38 nm38 rfl (refID_ok w25 _ hx (hR.keep0 M25.keep))) ?_; rintro v26 w26 ⟨rfl, K26⟩
  refine ⟨Keep nof w26, fun u h => K26.trans h, Keep.refl _ _, ?_⟩
  have M26 := M25.step K26
  refine WP.py rfl rfl rfl rfl rfl rfl (fun _ => Ex.neA rfl rfl (eqHash w (iID_len x) (iID_len x))) ?_
  rw [decide_eq_true rfl]
  refine WP.p rfl rfl rfl rfl (fun _ => Ex.pickF rfl rfl) ?_
  refine WP.p rfl rfl rfl rfl (fun _ => Ex.mv rfl) ?_
  refine WP.qy (Keep.refl _ _) rfl rfl rfl rfl rfl rfl (fun w' hS => Ex.loadA ty57 rfl (itt_len (by first | assumption | exact itt0_ok)) ((M26.rdw (i := 2) rfl).keep0 hS)) ?_
  refine WP.qy (Keep.refl _ _) rfl rfl rfl rfl rfl rfl (fun w' hS => Ex.loadA ty57 rfl (itt_len (by first | assumption | exact itt0_ok)) ((M26.rdw (i := 2) rfl).keep0 hS)) ?_
  refine WP.ays rfl rfl rfl rfl rfl rfl (Ac.call rfl Tryd.func35 nm35 rfl (iLeaf_ok w26 _ hx (hT.keep M26.keep))) ?_; rintro v32 w32 ⟨rfl, K32⟩
  refine ⟨Keep nof w32, fun u h => K32.trans h, Keep.refl _ _, ?_⟩
  have M32 := M26.step K32
  refine WP.ays rfl rfl rfl rfl rfl rfl (Ac.call rfl Tryd.func39 nm39 rfl (refLeaf_ok w32 _ hx (hR.keep0 M32.keep))) ?_; rintro v33 w33 ⟨rfl, K33⟩
  refine ⟨Keep nof w33, fun u h => K33.trans h, Keep.refl _ _, ?_⟩
  have M33 := M32.step K33
  refine WP.py rfl rfl rfl rfl rfl rfl (fun _ => Ex.neA rfl rfl (eqHash w (iLeaf_len x) (iLeaf_len x))) ?_
  rw [decide_eq_true rfl]
  refine WP.p rfl rfl rfl rfl (fun _ => Ex.pickF rfl rfl) ?_
  refine WP.nil ?_
  refine WX.next (?_)
  refine WC.no rfl ?_
  refine WC.skip ?_
  refine WX.next (?_)
  refine WC.seq ?_
  refine WC.seq ?_
  refine WC.region ?_
  refine WL.ex rfl rfl rfl (Ex.loadA ty57 rfl (itt_len (by first | assumption | exact itt0_ok)) (M33.rdw (i := 2) rfl)) ?_
  refine WL.ac rfl rfl rfl (Ac.call rfl Tryd.func40 nm40 rfl (may7_ok w33 _ hx)) ?_; rintro v37 w37 ⟨rfl, K37⟩
  have M37 := M33.step K37
  by_cases hm : mayI x
  · rw [decide_eq_true hm]
    rw [if_pos hm] at hR2
    rw [hR2] at hY hE
    simp only at hY hE
    subst hY hE
    refine WL.ex rfl rfl rfl (Ex.not rfl) ?_
    refine WL.nil ?_
    refine WX.next (?_)
    refine WC.no rfl ?_
    refine WC.skip ?_
    refine WX.next (?_)
    refine WC.seq ?_
    refine WC.region ?_
    refine WL.ex rfl rfl rfl (Ex.loadA ty57 rfl (itt_len (by first | assumption | exact itt0_ok)) (M37.rdw (i := 2) rfl)) ?_
    refine WL.ac rfl rfl rfl (Ac.call rfl Tryd.func41 nm41 rfl (iCheck_ok w37 _ hx)) ?_; rintro v40 w40 ⟨rfl, K40⟩
    rw [if_pos hm]
    have M40 := M37.step K40
    refine WL.ex rfl rfl rfl (Ex.eqI rfl rfl) ?_
    rw [decide_eq_true rfl]
    refine WL.ex rfl rfl rfl (Ex.mv rfl) ?_
    refine WL.yes rfl rfl rfl rfl ?_
    refine WL.ex rfl rfl rfl (Ex.mv rfl) ?_
    refine WL.yes rfl rfl rfl rfl ?_
    refine WL.ex rfl rfl rfl (Ex.eqI rfl rfl) ?_
    rw [decide_eq_true rfl]
    refine WL.ex rfl rfl rfl (Ex.pickT rfl rfl) ?_
    refine WL.ex rfl rfl rfl (Ex.mv rfl) ?_
    refine WL.yes rfl rfl rfl rfl ?_
    refine WL.ex rfl rfl rfl (Ex.loadA ty57 rfl (itt_len (by first | assumption | exact itt0_ok)) (M40.rdw (i := 0) rfl)) ?_
    refine WL.yes rfl rfl rfl rfl ?_
    refine WL.ex rfl rfl rfl (Ex.loadA ty57 rfl (itt_len (by first | assumption | exact itt0_ok)) (M40.rdw (i := 2) rfl)) ?_
    refine WL.yes rfl rfl rfl rfl ?_
    refine WL.ex rfl rfl rfl (Ex.eqA rfl rfl (eqItt w hx hx)) ?_
    rw [decide_eq_true rfl]
    refine WL.ex rfl rfl rfl (Ex.pickT rfl rfl) ?_
    refine WL.ex rfl rfl rfl (Ex.asg rfl) ?_
    refine WL.nil ?_
    refine WX.next (?_)
    refine WC.ret ?_
    refine WX.ret1 rfl rfl ?_
    exact ⟨rfl, M40.keep⟩
  · rw [decide_eq_false hm]
    rw [if_neg hm] at hR2
    rw [hR2] at hY hE
    simp only at hY hE
    subst hY hE
    refine WL.ex rfl rfl rfl (Ex.not rfl) ?_
    refine WL.nil ?_
    refine WX.next (?_)
    refine WC.yes rfl ?_
    refine WC.seq ?_
    refine WC.region ?_
    refine WL.ex rfl rfl rfl (Ex.loadA ty57 rfl (itt_len (by first | assumption | exact itt0_ok)) (M37.rdw (i := 2) rfl)) ?_
    refine WL.ac rfl rfl rfl (Ac.call rfl Tryd.func41 nm41 rfl (iCheck_ok w37 _ hx)) ?_; rintro v54 w54 ⟨rfl, K54⟩
    rw [if_neg hm]
    have M54 := M37.step K54
    refine WL.ex rfl rfl rfl (Ex.eqI rfl rfl) ?_
    rw [decide_eq_true rfl]
    refine WL.ex rfl rfl rfl (Ex.mv rfl) ?_
    refine WL.yes rfl rfl rfl rfl ?_
    refine WL.ex rfl rfl rfl (Ex.mv rfl) ?_
    refine WL.yes rfl rfl rfl rfl ?_
    refine WL.ex rfl rfl rfl (Ex.eqI rfl rfl) ?_
    rw [decide_eq_true rfl]
    refine WL.ex rfl rfl rfl (Ex.pickT rfl rfl) ?_
    refine WL.ex rfl rfl rfl (Ex.mv rfl) ?_
    refine WL.yes rfl rfl rfl rfl ?_
    refine WL.ex rfl rfl rfl (Ex.loadA ty57 rfl (itt_len (by first | assumption | exact itt0_ok)) (M54.rdw (i := 0) rfl)) ?_
    refine WL.yes rfl rfl rfl rfl ?_
    refine WL.ex rfl rfl rfl (Ex.bld bd57 (parts := []) (l := ittC itt0) rfl rfl rfl rfl) ?_
    refine WL.yes rfl rfl rfl rfl ?_
    refine WL.ex rfl rfl rfl (Ex.eqA rfl rfl (eqItt w itt0_ok itt0_ok)) ?_
    rw [decide_eq_true rfl]
    refine WL.ex rfl rfl rfl (Ex.pickT rfl rfl) ?_
    refine WL.ex rfl rfl rfl (Ex.asg rfl) ?_
    refine WL.nil ?_
    refine WX.next (?_)
    refine WC.ret ?_
    refine WX.ret_then (?_)
    refine WX.ret1 rfl rfl ?_
    exact ⟨rfl, M54.keep⟩

end Go.Proofs.YtfncnpnjhcaphaaDoor
