/- Walks, written by gen.py off the translation's own print: each says what the Go function comes to. -/
import Derived.Test.YtfncnpnjhcaphaaDoorJc
set_option linter.unusedVariables false
set_option linter.unusedSimpArgs false
namespace Go.Proofs.YtfncnpnjhcaphaaDoor
open Go.Sx Go.RowKit
attribute [local irreducible] Ac Ex WL WC WX WP Gives sha

/- sponsion/sponsionlaw07.IntentApart -/
theorem intentApart_walk (w : World) (x y : Itt) (hx : IttOk x) (hy : IttOk y) (hT : Tabs w) :
    Gives Tryd.prog 10 #[.agg (ittC x).toArray, .agg (ittC y).toArray] w fun u w1 => u = .bool true ∧ Keep nof w w1 := by
  have M0 := Mem.start w nof
  obtain ⟨Bx, hBx⟩ : ∃ B, B = ittB x := ⟨_, rfl⟩
  have hBxl : Bx.length = 38 := by rw [hBx]; simp
  obtain ⟨By, hBy⟩ : ∃ B, B = ittB y := ⟨_, rfl⟩
  have hByl : By.length = 38 := by rw [hBy]; simp
  have hxi : dOf 3 [Bx] = iID x := by rw [hBx]; rfl
  have hxf : dOf 0 [Bx] = iLeaf x := by rw [hBx]; rfl
  have hinj : Bx = By ↔ x = y := by rw [hBx, hBy]; exact ittB_inj hx hy
  refine Gives.enter (n := 53) Tryd.func10 rfl Tryd.ntmps10 rfl (env := [(0, .agg (ittC x).toArray), (1, .agg (ittC y).toArray)]) rfl ?_
  refine WC.seq ?_
  refine WC.region ?_
  refine WL.ac rfl rfl rfl (Ac.box M0 rfl rfl) ?_; rintro v1 w1 ⟨gx, rfl, hg1, K1, M1⟩
  refine WL.ac rfl rfl rfl (Ac.box M1 rfl rfl) ?_; rintro v2 w2 ⟨gy, rfl, hg2, K2, M2⟩
  refine WL.ex rfl rfl rfl (Ex.asg rfl) ?_
  refine WL.nil ?_
  refine WX.next (?_)
  refine WC.seq ?_
  refine WC.seq ?_
  refine WC.region ?_
  refine WL.ac rfl rfl rfl (Ac.call rfl Tryd.func32 nm32 rfl (lives07_ok w2)) ?_; rintro v4 w4 ⟨rfl, K4⟩
  have M4 := M2.step K4
  refine WL.ex rfl rfl rfl (Ex.not rfl) ?_
  refine WL.nil ?_
  refine WX.next (?_)
  refine WC.no rfl ?_
  refine WC.skip ?_
  refine WX.next (?_)
  refine WC.seq ?_
  refine WC.draw (Keep nof w4.drew) [] (.one 0 1 (.one 3 1 (.one 1 2 (.one 2 1 (.one 4 2 (.one 6 0 (.one 5 1 (.one 7 0 .nil)))))))) mixed (by kernel_rfl) (by kernel_rfl) (by kernel_rfl) (HQ.then_ HQ.body) ?_
  obtain ⟨w6, hw6⟩ : ∃ v, v = w4.drew := ⟨_, rfl⟩
  have D6 : Keep nof w4 w6 := by rw [hw6]; exact Keep.drew _ _
  have M6 := M4.step D6
  rw [← hw6]; clear hw6
  refine WP.q (Keep.refl _ _) rfl rfl rfl rfl (fun w' hS => Ex.loadA ty57 rfl (itt_len (by first | assumption | exact itt0_ok)) ((M6.rdw (i := 1) rfl).keep0 hS)) ?_
  refine WP.q (Keep.refl _ _) rfl rfl rfl rfl (fun w' hS => Ex.loadA ty57 rfl (itt_len (by first | assumption | exact itt0_ok)) ((M6.rdw (i := 0) rfl).keep0 hS)) ?_
  refine WP.as rfl rfl rfl rfl (Ac.call rfl Tryd.func33 nm33 rfl (iBytes_ok w6 _ hx)) ?_; rintro v9 w9 N9
  refine ⟨Keep nof w9, fun u h => N9.keep.trans h, Keep.refl _ _, ?_⟩
  have M9 := M6.new N9
  obtain ⟨A2, c2, rfl⟩ := own_slice (M9.get (i := 0) rfl)
  rw [← hBx] at M9 ⊢
  refine WP.q (Keep.refl _ _) rfl rfl rfl rfl (fun w' hS => Ex.cvBS Tryd.underlying22 Tryd.underlying5 Tryd.underlying9 rfl ((M9.rdr (i := 0) rfl).keep0 hS)) ?_
  refine WP.as rfl rfl rfl rfl (Ac.call rfl Tryd.func33 nm33 rfl (iBytes_ok w9 _ hy)) ?_; rintro v11 w11 N11
  refine ⟨Keep nof w11, fun u h => N11.keep.trans h, Keep.refl _ _, ?_⟩
  have M11 := M9.new N11
  obtain ⟨A3, c3, rfl⟩ := own_slice (M11.get (i := 0) rfl)
  rw [← hBy] at M11 ⊢
  refine WP.p rfl rfl rfl rfl (fun _ => Ex.asg rfl) ?_
  refine WP.q (Keep.refl _ _) rfl rfl rfl rfl (fun w' hS => Ex.cvBS Tryd.underlying22 Tryd.underlying5 Tryd.underlying9 rfl ((M11.rdr (i := 0) rfl).keep0 hS)) ?_
  refine WP.p rfl rfl rfl rfl (fun _ => Ex.asg rfl) ?_
  refine WP.nil ?_
  refine WX.next (?_)
  refine WC.seq ?_
  refine WC.seq ?_
  refine WC.region ?_
  refine WL.ex rfl rfl rfl (Ex.mv rfl) ?_
  refine WL.ex rfl rfl rfl (Ex.mv rfl) ?_
  refine WL.ex rfl rfl rfl (Ex.eqS rfl rfl) ?_
  refine WL.ex rfl rfl rfl (Ex.loadA ty57 rfl (itt_len (by first | assumption | exact itt0_ok)) (M11.rdw (i := 3) rfl)) ?_
  refine WL.ex rfl rfl rfl (Ex.loadA ty57 rfl (itt_len (by first | assumption | exact itt0_ok)) (M11.rdw (i := 2) rfl)) ?_
  refine WL.ex rfl rfl rfl (Ex.eqA rfl rfl (eqItt w hx hy)) ?_
  refine WL.ex rfl rfl rfl (Ex.neB Tryd.underlying4 rfl rfl) ?_
  rw [show (decide (Bx = By) == decide (x = y)) = true by rw [beq_iff_eq]; exact decide_eq_decide.2 hinj]
  refine WL.nil ?_
  refine WX.next (?_)
  refine WC.no rfl ?_
  refine WC.skip ?_
  refine WX.next (?_)
  refine WC.seq ?_
  refine WC.seq ?_
  refine WC.region ?_
  refine WL.ex rfl rfl rfl (Ex.loadA ty57 rfl (itt_len (by first | assumption | exact itt0_ok)) (M11.rdw (i := 3) rfl)) ?_
  refine WL.ac rfl rfl rfl (Ac.call rfl Tryd.func34 nm34 rfl (iID_ok w11 _ hx (hT.keep M11.keep))) ?_; rintro v23 w23 ⟨rfl, K23⟩
  have M23 := M11.step K23
  refine WL.ex rfl rfl rfl (Ex.mv rfl) ?_
  refine WL.ac rfl rfl rfl (Ac.cvSB M23 Tryd.underlying9 Tryd.underlying22 Tryd.underlying5 rfl) ?_; rintro v25 w25 ⟨g5, cg5, rfl, hg25, K25, M25⟩
  refine WL.ac rfl rfl rfl (Ac.bs M25 (parts := [(0, .tmp 25)]) (l := [svV ⟨some ⟨g5, 0, none⟩, cg5, Bx⟩]) rfl rfl (LitS.one el29 rfl)) ?_; rintro v26 w26 ⟨g6, rfl, hg26, K26, M26⟩
  refine WL.ac rfl rfl rfl (Ac.call rfl Tryd.func22 nm22 rfl (text_ok w26 3 _ 1 [⟨some ⟨g5, 0, none⟩, cg5, Bx⟩] (by decide) (RdP.one (M26.get (i := 0) rfl) (M26.datrd (i := 1) rfl)) (by simp; omega) (by show (txt 3 [Bx]).length ≤ _; rw [txt_1]; omega))) ?_; rintro v27 w27 N27
  rw [show txt 3 (([⟨some ⟨g5, 0, none⟩, cg5, Bx⟩] : List SV).map (·.l)) = txt 3 [Bx] from rfl] at N27
  have M27 := M26.new N27
  obtain ⟨A27, c27, rfl⟩ := own_slice (M27.get (i := 0) rfl)
  refine WL.ac rfl rfl rfl (Ac.bs M27 (parts := [(0, .tmp 27)]) (l := [svV ⟨_, _, txt 3 [Bx]⟩]) rfl rfl (LitS.one el29 rfl)) ?_; rintro v28 w28 ⟨g7, rfl, hg28, K28, M28⟩
  refine WL.ac rfl rfl rfl (Ac.call rfl Tryd.func13 nm13 rfl (dsum_ok w28 _ 1 [⟨_, _, txt 3 [Bx]⟩] (RdP.one (M28.get (i := 0) rfl) (M28.rdr (i := 1) rfl)) (hT.keep M28.keep) (by rw [flatP_one, txt_1]; omega) (by simp))) ?_; rintro v29 w29 ⟨rfl, K29⟩
  rw [flatP_one, show sha (txt 3 [Bx]) = iID x from hxi]
  have M29 := M28.step K29
  refine WL.ex rfl rfl rfl (Ex.neA rfl rfl (eqHash w (iID_len x) (iID_len x))) ?_
  rw [decide_eq_true rfl]
  refine WL.ex rfl rfl rfl (Ex.mv rfl) ?_
  refine WL.yes rfl rfl rfl rfl ?_
  refine WL.ex rfl rfl rfl (Ex.loadA ty57 rfl (itt_len (by first | assumption | exact itt0_ok)) (M29.rdw (i := 7) rfl)) ?_
  refine WL.yes rfl rfl rfl rfl ?_
  refine WL.ac rfl rfl rfl (Ac.call rfl Tryd.func35 nm35 rfl (iLeaf_ok w29 _ hx (hT.keep M29.keep))) ?_; rintro v33 w33 ⟨rfl, K33⟩
  have M33 := M29.step K33
  refine WL.yes rfl rfl rfl rfl ?_
  refine WL.ex rfl rfl rfl (Ex.mv rfl) ?_
  refine WL.yes rfl rfl rfl rfl ?_
  refine WL.ac rfl rfl rfl (Ac.cvSB M33 Tryd.underlying9 Tryd.underlying22 Tryd.underlying5 rfl) ?_; rintro v35 w35 ⟨g8, cg8, rfl, hg35, K35, M35⟩
  refine WL.yes rfl rfl rfl rfl ?_
  refine WL.ac rfl rfl rfl (Ac.bs M35 (parts := [(0, .tmp 35)]) (l := [svV ⟨some ⟨g8, 0, none⟩, cg8, Bx⟩]) rfl rfl (LitS.one el29 rfl)) ?_; rintro v36 w36 ⟨g9, rfl, hg36, K36, M36⟩
  refine WL.yes rfl rfl rfl rfl ?_
  refine WL.ac rfl rfl rfl (Ac.call rfl Tryd.func22 nm22 rfl (text_ok w36 0 _ 1 [⟨some ⟨g8, 0, none⟩, cg8, Bx⟩] (by decide) (RdP.one (M36.get (i := 0) rfl) (M36.datrd (i := 1) rfl)) (by simp; omega) (by show (txt 0 [Bx]).length ≤ _; rw [txt_1]; omega))) ?_; rintro v37 w37 N37
  rw [show txt 0 (([⟨some ⟨g8, 0, none⟩, cg8, Bx⟩] : List SV).map (·.l)) = txt 0 [Bx] from rfl] at N37
  have M37 := M36.new N37
  obtain ⟨A37, c37, rfl⟩ := own_slice (M37.get (i := 0) rfl)
  refine WL.yes rfl rfl rfl rfl ?_
  refine WL.ac rfl rfl rfl (Ac.bs M37 (parts := [(0, .tmp 37)]) (l := [svV ⟨_, _, txt 0 [Bx]⟩]) rfl rfl (LitS.one el29 rfl)) ?_; rintro v38 w38 ⟨g10, rfl, hg38, K38, M38⟩
  refine WL.yes rfl rfl rfl rfl ?_
  refine WL.ac rfl rfl rfl (Ac.call rfl Tryd.func13 nm13 rfl (dsum_ok w38 _ 1 [⟨_, _, txt 0 [Bx]⟩] (RdP.one (M38.get (i := 0) rfl) (M38.rdr (i := 1) rfl)) (hT.keep M38.keep) (by rw [flatP_one, txt_1]; omega) (by simp))) ?_; rintro v39 w39 ⟨rfl, K39⟩
  rw [flatP_one, show sha (txt 0 [Bx]) = iLeaf x from hxf]
  have M39 := M38.step K39
  refine WL.yes rfl rfl rfl rfl ?_
  refine WL.ex rfl rfl rfl (Ex.neA rfl rfl (eqHash w (iLeaf_len x) (iLeaf_len x))) ?_
  rw [decide_eq_true rfl]
  refine WL.ex rfl rfl rfl (Ex.pickF rfl rfl) ?_
  refine WL.nil ?_
  refine WX.next (?_)
  refine WC.no rfl ?_
  refine WC.skip ?_
  refine WX.next (?_)
  refine WC.seq ?_
  refine WC.draw (Keep nof w39.drew) [1, 2, 3] (.one 0 0 (.one 5 0 (.two 1 (.two 2 (.two 3 (.one 4 1 (.one 6 2 (.one 7 2 (.one 8 2 (.one 9 1 (.one 10 0 (.one 11 0 .nil))))))) 6 (.two 3 (.one 4 1 (.one 7 2 (.one 8 2 (.one 9 1 (.one 10 0 (.one 11 0 .nil)))))) 7 (.one 3 2 (.one 4 1 (.one 8 2 (.one 9 1 (.one 10 0 (.one 11 0 .nil)))))))) 6 (.two 2 (.two 3 (.one 4 1 (.one 7 2 (.one 8 2 (.one 9 1 (.one 10 0 (.one 11 0 .nil)))))) 7 (.one 3 2 (.one 4 1 (.one 8 2 (.one 9 1 (.one 10 0 (.one 11 0 .nil))))))) 7 (.one 2 2 (.one 3 2 (.one 4 1 (.one 8 2 (.one 9 1 (.one 10 0 (.one 11 0 .nil))))))))) 6 (.two 1 (.two 2 (.two 3 (.one 4 1 (.one 7 2 (.one 8 2 (.one 9 1 (.one 10 0 (.one 11 0 .nil)))))) 7 (.one 3 2 (.one 4 1 (.one 8 2 (.one 9 1 (.one 10 0 (.one 11 0 .nil))))))) 7 (.one 2 2 (.one 3 2 (.one 4 1 (.one 8 2 (.one 9 1 (.one 10 0 (.one 11 0 .nil)))))))) 7 (.one 1 2 (.one 2 2 (.one 3 2 (.one 4 1 (.one 8 2 (.one 9 1 (.one 10 0 (.one 11 0 .nil)))))))))))) mixed (by kernel_rfl) (by kernel_rfl) (by kernel_rfl) (HQ.then_ HQ.body) ?_
  obtain ⟨w42, hw42⟩ : ∃ v, v = w39.drew := ⟨_, rfl⟩
  have D42 : Keep nof w39 w42 := by rw [hw42]; exact Keep.drew _ _
  have M42 := M39.step D42
  rw [← hw42]; clear hw42
  refine WP.p rfl rfl rfl rfl (fun _ => Ex.mv rfl) ?_
  refine WP.p rfl rfl rfl rfl (fun _ => Ex.mv rfl) ?_
  refine WP.two ?_ ?_
  · skip
    refine WP.a rfl rfl rfl rfl (Ac.cvSB M42 Tryd.underlying9 Tryd.underlying22 Tryd.underlying5 rfl) ?_; rintro v45 w45 ⟨g11, cg11, rfl, hg45, K45, M45⟩; refine .inl ⟨rfl, Keep nof w45, ?_⟩
    refine WP.two ?_ ?_
    · skip
      refine WP.a rfl rfl rfl rfl (Ac.bs M45 (parts := [(0, .tmp 43)]) (l := [svV ⟨some ⟨g11, 0, none⟩, cg11, Bx⟩]) rfl rfl (LitS.one el29 rfl)) ?_; rintro v46 w46 ⟨g12, rfl, hg46, K46, M46⟩; refine .inl ⟨rfl, Keep nof w46, ?_⟩
      refine WP.two ?_ ?_
      · skip
        refine WP.a rfl rfl rfl rfl (Ac.call rfl Tryd.func22 nm22 rfl (text_ok w46 3 _ 1 [⟨some ⟨g11, 0, none⟩, cg11, Bx⟩] (by decide) (RdP.one (M46.get (i := 0) rfl) (M46.datrd (i := 1) rfl)) (by simp; omega) (by show (txt 3 [Bx]).length ≤ _; rw [txt_1]; omega))) ?_; rintro v47 w47 N47; refine .inl ⟨rfl, Keep nof w47, ?_⟩
        rw [show txt 3 (([⟨some ⟨g11, 0, none⟩, cg11, Bx⟩] : List SV).map (·.l)) = txt 3 [Bx] from rfl] at N47
        have M47 := M46.new N47
        obtain ⟨A47, c47, rfl⟩ := own_slice (M47.get (i := 0) rfl)
        refine WP.q (Keep.refl _ _) rfl rfl rfl rfl (fun w' hS => Ex.cvBS Tryd.underlying22 Tryd.underlying5 Tryd.underlying9 rfl ((M47.rdr (i := 0) rfl).keep0 hS)) ?_
        refine WP.as rfl rfl rfl rfl (Ac.cvSB M47 Tryd.underlying9 Tryd.underlying22 Tryd.underlying5 rfl) ?_; rintro v49 w49 ⟨g13, cg13, rfl, hg49, K49, M49⟩
        refine ⟨Keep nof w49, fun u h => K49.trans h, Keep.refl _ _, ?_⟩
        refine WP.as rfl rfl rfl rfl (Ac.bs M49 (parts := [(0, .tmp 48)]) (l := [svV ⟨some ⟨g13, 0, none⟩, cg13, By⟩]) rfl rfl (LitS.one el29 rfl)) ?_; rintro v50 w50 ⟨g14, rfl, hg50, K50, M50⟩
        refine ⟨Keep nof w50, fun u h => K50.trans h, Keep.refl _ _, ?_⟩
        refine WP.as rfl rfl rfl rfl (Ac.call rfl Tryd.func22 nm22 rfl (text_ok w50 0 _ 1 [⟨some ⟨g13, 0, none⟩, cg13, By⟩] (by decide) (RdP.one (M50.get (i := 0) rfl) (M50.datrd (i := 1) rfl)) (by simp; omega) (by show (txt 0 [By]).length ≤ _; rw [txt_1]; omega))) ?_; rintro v51 w51 N51
        refine ⟨Keep nof w51, fun u h => N51.keep.trans h, Keep.refl _ _, ?_⟩
        rw [show txt 0 (([⟨some ⟨g13, 0, none⟩, cg13, By⟩] : List SV).map (·.l)) = txt 0 [By] from rfl] at N51
        have M51 := M50.new N51
        obtain ⟨A51, c51, rfl⟩ := own_slice (M51.get (i := 0) rfl)
        refine WP.q (Keep.refl _ _) rfl rfl rfl rfl (fun w' hS => Ex.cvBS Tryd.underlying22 Tryd.underlying5 Tryd.underlying9 rfl ((M51.rdr (i := 0) rfl).keep0 hS)) ?_
        refine WP.p rfl rfl rfl rfl (fun _ => Ex.neS rfl rfl) ?_
        rw [decide_eq_false (fun h => by have := (txt_inj (by decide) (by decide) (by simp; omega) (by simp; omega) h).1; omega)]
        refine WP.p rfl rfl rfl rfl (fun _ => Ex.asg rfl) ?_
        refine WP.nil ?_
        refine WX.next (?_)
        refine WC.ret ?_
        refine WX.ret1 rfl rfl ?_
        exact ⟨rfl, M51.keep⟩
      · skip
        refine WP.as rfl rfl rfl rfl (Ac.cvSB M46 Tryd.underlying9 Tryd.underlying22 Tryd.underlying5 rfl) ?_; rintro v55 w55 ⟨g13, cg13, rfl, hg55, K55, M55⟩
        refine ⟨Keep nof w55, fun u h => K55.trans h, Keep.refl _ _, ?_⟩
        refine WP.two ?_ ?_
        · skip
          refine WP.a rfl rfl rfl rfl (Ac.call rfl Tryd.func22 nm22 rfl (text_ok w55 3 _ 1 [⟨some ⟨g11, 0, none⟩, cg11, Bx⟩] (by decide) (RdP.one (M55.get (i := 1) rfl) (M55.datrd (i := 2) rfl)) (by simp; omega) (by show (txt 3 [Bx]).length ≤ _; rw [txt_1]; omega))) ?_; rintro v56 w56 N56; refine .inl ⟨rfl, Keep nof w56, ?_⟩
          rw [show txt 3 (([⟨some ⟨g11, 0, none⟩, cg11, Bx⟩] : List SV).map (·.l)) = txt 3 [Bx] from rfl] at N56
          have M56 := M55.new N56
          obtain ⟨A56, c56, rfl⟩ := own_slice (M56.get (i := 0) rfl)
          refine WP.q (Keep.refl _ _) rfl rfl rfl rfl (fun w' hS => Ex.cvBS Tryd.underlying22 Tryd.underlying5 Tryd.underlying9 rfl ((M56.rdr (i := 0) rfl).keep0 hS)) ?_
          refine WP.as rfl rfl rfl rfl (Ac.bs M56 (parts := [(0, .tmp 48)]) (l := [svV ⟨some ⟨g13, 0, none⟩, cg13, By⟩]) rfl rfl (LitS.one el29 rfl)) ?_; rintro v58 w58 ⟨g14, rfl, hg58, K58, M58⟩
          refine ⟨Keep nof w58, fun u h => K58.trans h, Keep.refl _ _, ?_⟩
          refine WP.as rfl rfl rfl rfl (Ac.call rfl Tryd.func22 nm22 rfl (text_ok w58 0 _ 1 [⟨some ⟨g13, 0, none⟩, cg13, By⟩] (by decide) (RdP.one (M58.get (i := 0) rfl) (M58.datrd (i := 2) rfl)) (by simp; omega) (by show (txt 0 [By]).length ≤ _; rw [txt_1]; omega))) ?_; rintro v59 w59 N59
          refine ⟨Keep nof w59, fun u h => N59.keep.trans h, Keep.refl _ _, ?_⟩
          rw [show txt 0 (([⟨some ⟨g13, 0, none⟩, cg13, By⟩] : List SV).map (·.l)) = txt 0 [By] from rfl] at N59
          have M59 := M58.new N59
          obtain ⟨A59, c59, rfl⟩ := own_slice (M59.get (i := 0) rfl)
          refine WP.q (Keep.refl _ _) rfl rfl rfl rfl (fun w' hS => Ex.cvBS Tryd.underlying22 Tryd.underlying5 Tryd.underlying9 rfl ((M59.rdr (i := 0) rfl).keep0 hS)) ?_
          refine WP.p rfl rfl rfl rfl (fun _ => Ex.neS rfl rfl) ?_
          rw [decide_eq_false (fun h => by have := (txt_inj (by decide) (by decide) (by simp; omega) (by simp; omega) h).1; omega)]
          refine WP.p rfl rfl rfl rfl (fun _ => Ex.asg rfl) ?_
          refine WP.nil ?_
          refine WX.next (?_)
          refine WC.ret ?_
          refine WX.ret1 rfl rfl ?_
          exact ⟨rfl, M59.keep⟩
        · skip
          refine WP.as rfl rfl rfl rfl (Ac.bs M55 (parts := [(0, .tmp 48)]) (l := [svV ⟨some ⟨g13, 0, none⟩, cg13, By⟩]) rfl rfl (LitS.one el29 rfl)) ?_; rintro v63 w63 ⟨g14, rfl, hg63, K63, M63⟩
          refine ⟨Keep nof w63, fun u h => K63.trans h, Keep.refl _ _, ?_⟩
          refine WP.a rfl rfl rfl rfl (Ac.call rfl Tryd.func22 nm22 rfl (text_ok w63 3 _ 1 [⟨some ⟨g11, 0, none⟩, cg11, Bx⟩] (by decide) (RdP.one (M63.get (i := 2) rfl) (M63.datrd (i := 3) rfl)) (by simp; omega) (by show (txt 3 [Bx]).length ≤ _; rw [txt_1]; omega))) ?_; rintro v64 w64 N64; refine .inl ⟨rfl, Keep nof w64, ?_⟩
          rw [show txt 3 (([⟨some ⟨g11, 0, none⟩, cg11, Bx⟩] : List SV).map (·.l)) = txt 3 [Bx] from rfl] at N64
          have M64 := M63.new N64
          obtain ⟨A64, c64, rfl⟩ := own_slice (M64.get (i := 0) rfl)
          refine WP.q (Keep.refl _ _) rfl rfl rfl rfl (fun w' hS => Ex.cvBS Tryd.underlying22 Tryd.underlying5 Tryd.underlying9 rfl ((M64.rdr (i := 0) rfl).keep0 hS)) ?_
          refine WP.as rfl rfl rfl rfl (Ac.call rfl Tryd.func22 nm22 rfl (text_ok w64 0 _ 1 [⟨some ⟨g13, 0, none⟩, cg13, By⟩] (by decide) (RdP.one (M64.get (i := 1) rfl) (M64.datrd (i := 2) rfl)) (by simp; omega) (by show (txt 0 [By]).length ≤ _; rw [txt_1]; omega))) ?_; rintro v66 w66 N66
          refine ⟨Keep nof w66, fun u h => N66.keep.trans h, Keep.refl _ _, ?_⟩
          rw [show txt 0 (([⟨some ⟨g13, 0, none⟩, cg13, By⟩] : List SV).map (·.l)) = txt 0 [By] from rfl] at N66
          have M66 := M64.new N66
          obtain ⟨A66, c66, rfl⟩ := own_slice (M66.get (i := 0) rfl)
          refine WP.q (Keep.refl _ _) rfl rfl rfl rfl (fun w' hS => Ex.cvBS Tryd.underlying22 Tryd.underlying5 Tryd.underlying9 rfl ((M66.rdr (i := 0) rfl).keep0 hS)) ?_
          refine WP.p rfl rfl rfl rfl (fun _ => Ex.neS rfl rfl) ?_
          rw [decide_eq_false (fun h => by have := (txt_inj (by decide) (by decide) (by simp; omega) (by simp; omega) h).1; omega)]
          refine WP.p rfl rfl rfl rfl (fun _ => Ex.asg rfl) ?_
          refine WP.nil ?_
          refine WX.next (?_)
          refine WC.ret ?_
          refine WX.ret1 rfl rfl ?_
          exact ⟨rfl, M66.keep⟩
    · skip
      refine WP.as rfl rfl rfl rfl (Ac.cvSB M45 Tryd.underlying9 Tryd.underlying22 Tryd.underlying5 rfl) ?_; rintro v70 w70 ⟨g13, cg13, rfl, hg70, K70, M70⟩
      refine ⟨Keep nof w70, fun u h => K70.trans h, Keep.refl _ _, ?_⟩
      refine WP.two ?_ ?_
      · skip
        refine WP.a rfl rfl rfl rfl (Ac.bs M70 (parts := [(0, .tmp 43)]) (l := [svV ⟨some ⟨g11, 0, none⟩, cg11, Bx⟩]) rfl rfl (LitS.one el29 rfl)) ?_; rintro v71 w71 ⟨g12, rfl, hg71, K71, M71⟩; refine .inl ⟨rfl, Keep nof w71, ?_⟩
        refine WP.two ?_ ?_
        · skip
          refine WP.a rfl rfl rfl rfl (Ac.call rfl Tryd.func22 nm22 rfl (text_ok w71 3 _ 1 [⟨some ⟨g11, 0, none⟩, cg11, Bx⟩] (by decide) (RdP.one (M71.get (i := 0) rfl) (M71.datrd (i := 2) rfl)) (by simp; omega) (by show (txt 3 [Bx]).length ≤ _; rw [txt_1]; omega))) ?_; rintro v72 w72 N72; refine .inl ⟨rfl, Keep nof w72, ?_⟩
          rw [show txt 3 (([⟨some ⟨g11, 0, none⟩, cg11, Bx⟩] : List SV).map (·.l)) = txt 3 [Bx] from rfl] at N72
          have M72 := M71.new N72
          obtain ⟨A72, c72, rfl⟩ := own_slice (M72.get (i := 0) rfl)
          refine WP.q (Keep.refl _ _) rfl rfl rfl rfl (fun w' hS => Ex.cvBS Tryd.underlying22 Tryd.underlying5 Tryd.underlying9 rfl ((M72.rdr (i := 0) rfl).keep0 hS)) ?_
          refine WP.as rfl rfl rfl rfl (Ac.bs M72 (parts := [(0, .tmp 48)]) (l := [svV ⟨some ⟨g13, 0, none⟩, cg13, By⟩]) rfl rfl (LitS.one el29 rfl)) ?_; rintro v74 w74 ⟨g14, rfl, hg74, K74, M74⟩
          refine ⟨Keep nof w74, fun u h => K74.trans h, Keep.refl _ _, ?_⟩
          refine WP.as rfl rfl rfl rfl (Ac.call rfl Tryd.func22 nm22 rfl (text_ok w74 0 _ 1 [⟨some ⟨g13, 0, none⟩, cg13, By⟩] (by decide) (RdP.one (M74.get (i := 0) rfl) (M74.datrd (i := 3) rfl)) (by simp; omega) (by show (txt 0 [By]).length ≤ _; rw [txt_1]; omega))) ?_; rintro v75 w75 N75
          refine ⟨Keep nof w75, fun u h => N75.keep.trans h, Keep.refl _ _, ?_⟩
          rw [show txt 0 (([⟨some ⟨g13, 0, none⟩, cg13, By⟩] : List SV).map (·.l)) = txt 0 [By] from rfl] at N75
          have M75 := M74.new N75
          obtain ⟨A75, c75, rfl⟩ := own_slice (M75.get (i := 0) rfl)
          refine WP.q (Keep.refl _ _) rfl rfl rfl rfl (fun w' hS => Ex.cvBS Tryd.underlying22 Tryd.underlying5 Tryd.underlying9 rfl ((M75.rdr (i := 0) rfl).keep0 hS)) ?_
          refine WP.p rfl rfl rfl rfl (fun _ => Ex.neS rfl rfl) ?_
          rw [decide_eq_false (fun h => by have := (txt_inj (by decide) (by decide) (by simp; omega) (by simp; omega) h).1; omega)]
          refine WP.p rfl rfl rfl rfl (fun _ => Ex.asg rfl) ?_
          refine WP.nil ?_
          refine WX.next (?_)
          refine WC.ret ?_
          refine WX.ret1 rfl rfl ?_
          exact ⟨rfl, M75.keep⟩
        · skip
          refine WP.as rfl rfl rfl rfl (Ac.bs M71 (parts := [(0, .tmp 48)]) (l := [svV ⟨some ⟨g13, 0, none⟩, cg13, By⟩]) rfl rfl (LitS.one el29 rfl)) ?_; rintro v79 w79 ⟨g14, rfl, hg79, K79, M79⟩
          refine ⟨Keep nof w79, fun u h => K79.trans h, Keep.refl _ _, ?_⟩
          refine WP.a rfl rfl rfl rfl (Ac.call rfl Tryd.func22 nm22 rfl (text_ok w79 3 _ 1 [⟨some ⟨g11, 0, none⟩, cg11, Bx⟩] (by decide) (RdP.one (M79.get (i := 1) rfl) (M79.datrd (i := 3) rfl)) (by simp; omega) (by show (txt 3 [Bx]).length ≤ _; rw [txt_1]; omega))) ?_; rintro v80 w80 N80; refine .inl ⟨rfl, Keep nof w80, ?_⟩
          rw [show txt 3 (([⟨some ⟨g11, 0, none⟩, cg11, Bx⟩] : List SV).map (·.l)) = txt 3 [Bx] from rfl] at N80
          have M80 := M79.new N80
          obtain ⟨A80, c80, rfl⟩ := own_slice (M80.get (i := 0) rfl)
          refine WP.q (Keep.refl _ _) rfl rfl rfl rfl (fun w' hS => Ex.cvBS Tryd.underlying22 Tryd.underlying5 Tryd.underlying9 rfl ((M80.rdr (i := 0) rfl).keep0 hS)) ?_
          refine WP.as rfl rfl rfl rfl (Ac.call rfl Tryd.func22 nm22 rfl (text_ok w80 0 _ 1 [⟨some ⟨g13, 0, none⟩, cg13, By⟩] (by decide) (RdP.one (M80.get (i := 1) rfl) (M80.datrd (i := 3) rfl)) (by simp; omega) (by show (txt 0 [By]).length ≤ _; rw [txt_1]; omega))) ?_; rintro v82 w82 N82
          refine ⟨Keep nof w82, fun u h => N82.keep.trans h, Keep.refl _ _, ?_⟩
          rw [show txt 0 (([⟨some ⟨g13, 0, none⟩, cg13, By⟩] : List SV).map (·.l)) = txt 0 [By] from rfl] at N82
          have M82 := M80.new N82
          obtain ⟨A82, c82, rfl⟩ := own_slice (M82.get (i := 0) rfl)
          refine WP.q (Keep.refl _ _) rfl rfl rfl rfl (fun w' hS => Ex.cvBS Tryd.underlying22 Tryd.underlying5 Tryd.underlying9 rfl ((M82.rdr (i := 0) rfl).keep0 hS)) ?_
          refine WP.p rfl rfl rfl rfl (fun _ => Ex.neS rfl rfl) ?_
          rw [decide_eq_false (fun h => by have := (txt_inj (by decide) (by decide) (by simp; omega) (by simp; omega) h).1; omega)]
          refine WP.p rfl rfl rfl rfl (fun _ => Ex.asg rfl) ?_
          refine WP.nil ?_
          refine WX.next (?_)
          refine WC.ret ?_
          refine WX.ret1 rfl rfl ?_
          exact ⟨rfl, M82.keep⟩
      · skip
        refine WP.as rfl rfl rfl rfl (Ac.bs M70 (parts := [(0, .tmp 48)]) (l := [svV ⟨some ⟨g13, 0, none⟩, cg13, By⟩]) rfl rfl (LitS.one el29 rfl)) ?_; rintro v86 w86 ⟨g14, rfl, hg86, K86, M86⟩
        refine ⟨Keep nof w86, fun u h => K86.trans h, Keep.refl _ _, ?_⟩
        refine WP.a rfl rfl rfl rfl (Ac.bs M86 (parts := [(0, .tmp 43)]) (l := [svV ⟨some ⟨g11, 0, none⟩, cg11, Bx⟩]) rfl rfl (LitS.one el29 rfl)) ?_; rintro v87 w87 ⟨g12, rfl, hg87, K87, M87⟩; refine .inl ⟨rfl, Keep nof w87, ?_⟩
        refine WP.a rfl rfl rfl rfl (Ac.call rfl Tryd.func22 nm22 rfl (text_ok w87 3 _ 1 [⟨some ⟨g11, 0, none⟩, cg11, Bx⟩] (by decide) (RdP.one (M87.get (i := 0) rfl) (M87.datrd (i := 3) rfl)) (by simp; omega) (by show (txt 3 [Bx]).length ≤ _; rw [txt_1]; omega))) ?_; rintro v88 w88 N88; refine .inl ⟨rfl, Keep nof w88, ?_⟩
        rw [show txt 3 (([⟨some ⟨g11, 0, none⟩, cg11, Bx⟩] : List SV).map (·.l)) = txt 3 [Bx] from rfl] at N88
        have M88 := M87.new N88
        obtain ⟨A88, c88, rfl⟩ := own_slice (M88.get (i := 0) rfl)
        refine WP.q (Keep.refl _ _) rfl rfl rfl rfl (fun w' hS => Ex.cvBS Tryd.underlying22 Tryd.underlying5 Tryd.underlying9 rfl ((M88.rdr (i := 0) rfl).keep0 hS)) ?_
        refine WP.as rfl rfl rfl rfl (Ac.call rfl Tryd.func22 nm22 rfl (text_ok w88 0 _ 1 [⟨some ⟨g13, 0, none⟩, cg13, By⟩] (by decide) (RdP.one (M88.get (i := 2) rfl) (M88.datrd (i := 3) rfl)) (by simp; omega) (by show (txt 0 [By]).length ≤ _; rw [txt_1]; omega))) ?_; rintro v90 w90 N90
        refine ⟨Keep nof w90, fun u h => N90.keep.trans h, Keep.refl _ _, ?_⟩
        rw [show txt 0 (([⟨some ⟨g13, 0, none⟩, cg13, By⟩] : List SV).map (·.l)) = txt 0 [By] from rfl] at N90
        have M90 := M88.new N90
        obtain ⟨A90, c90, rfl⟩ := own_slice (M90.get (i := 0) rfl)
        refine WP.q (Keep.refl _ _) rfl rfl rfl rfl (fun w' hS => Ex.cvBS Tryd.underlying22 Tryd.underlying5 Tryd.underlying9 rfl ((M90.rdr (i := 0) rfl).keep0 hS)) ?_
        refine WP.p rfl rfl rfl rfl (fun _ => Ex.neS rfl rfl) ?_
        rw [decide_eq_false (fun h => by have := (txt_inj (by decide) (by decide) (by simp; omega) (by simp; omega) h).1; omega)]
        refine WP.p rfl rfl rfl rfl (fun _ => Ex.asg rfl) ?_
        refine WP.nil ?_
        refine WX.next (?_)
        refine WC.ret ?_
        refine WX.ret1 rfl rfl ?_
        exact ⟨rfl, M90.keep⟩
  · skip
    refine WP.as rfl rfl rfl rfl (Ac.cvSB M42 Tryd.underlying9 Tryd.underlying22 Tryd.underlying5 rfl) ?_; rintro v94 w94 ⟨g13, cg13, rfl, hg94, K94, M94⟩
    refine ⟨Keep nof w94, fun u h => K94.trans h, Keep.refl _ _, ?_⟩
    refine WP.two ?_ ?_
    · skip
      refine WP.a rfl rfl rfl rfl (Ac.cvSB M94 Tryd.underlying9 Tryd.underlying22 Tryd.underlying5 rfl) ?_; rintro v95 w95 ⟨g11, cg11, rfl, hg95, K95, M95⟩; refine .inl ⟨rfl, Keep nof w95, ?_⟩
      refine WP.two ?_ ?_
      · skip
        refine WP.a rfl rfl rfl rfl (Ac.bs M95 (parts := [(0, .tmp 43)]) (l := [svV ⟨some ⟨g11, 0, none⟩, cg11, Bx⟩]) rfl rfl (LitS.one el29 rfl)) ?_; rintro v96 w96 ⟨g12, rfl, hg96, K96, M96⟩; refine .inl ⟨rfl, Keep nof w96, ?_⟩
        refine WP.two ?_ ?_
        · skip
          refine WP.a rfl rfl rfl rfl (Ac.call rfl Tryd.func22 nm22 rfl (text_ok w96 3 _ 1 [⟨some ⟨g11, 0, none⟩, cg11, Bx⟩] (by decide) (RdP.one (M96.get (i := 0) rfl) (M96.datrd (i := 1) rfl)) (by simp; omega) (by show (txt 3 [Bx]).length ≤ _; rw [txt_1]; omega))) ?_; rintro v97 w97 N97; refine .inl ⟨rfl, Keep nof w97, ?_⟩
          rw [show txt 3 (([⟨some ⟨g11, 0, none⟩, cg11, Bx⟩] : List SV).map (·.l)) = txt 3 [Bx] from rfl] at N97
          have M97 := M96.new N97
          obtain ⟨A97, c97, rfl⟩ := own_slice (M97.get (i := 0) rfl)
          refine WP.q (Keep.refl _ _) rfl rfl rfl rfl (fun w' hS => Ex.cvBS Tryd.underlying22 Tryd.underlying5 Tryd.underlying9 rfl ((M97.rdr (i := 0) rfl).keep0 hS)) ?_
          refine WP.as rfl rfl rfl rfl (Ac.bs M97 (parts := [(0, .tmp 48)]) (l := [svV ⟨some ⟨g13, 0, none⟩, cg13, By⟩]) rfl rfl (LitS.one el29 rfl)) ?_; rintro v99 w99 ⟨g14, rfl, hg99, K99, M99⟩
          refine ⟨Keep nof w99, fun u h => K99.trans h, Keep.refl _ _, ?_⟩
          refine WP.as rfl rfl rfl rfl (Ac.call rfl Tryd.func22 nm22 rfl (text_ok w99 0 _ 1 [⟨some ⟨g13, 0, none⟩, cg13, By⟩] (by decide) (RdP.one (M99.get (i := 0) rfl) (M99.datrd (i := 4) rfl)) (by simp; omega) (by show (txt 0 [By]).length ≤ _; rw [txt_1]; omega))) ?_; rintro v100 w100 N100
          refine ⟨Keep nof w100, fun u h => N100.keep.trans h, Keep.refl _ _, ?_⟩
          rw [show txt 0 (([⟨some ⟨g13, 0, none⟩, cg13, By⟩] : List SV).map (·.l)) = txt 0 [By] from rfl] at N100
          have M100 := M99.new N100
          obtain ⟨A100, c100, rfl⟩ := own_slice (M100.get (i := 0) rfl)
          refine WP.q (Keep.refl _ _) rfl rfl rfl rfl (fun w' hS => Ex.cvBS Tryd.underlying22 Tryd.underlying5 Tryd.underlying9 rfl ((M100.rdr (i := 0) rfl).keep0 hS)) ?_
          refine WP.p rfl rfl rfl rfl (fun _ => Ex.neS rfl rfl) ?_
          rw [decide_eq_false (fun h => by have := (txt_inj (by decide) (by decide) (by simp; omega) (by simp; omega) h).1; omega)]
          refine WP.p rfl rfl rfl rfl (fun _ => Ex.asg rfl) ?_
          refine WP.nil ?_
          refine WX.next (?_)
          refine WC.ret ?_
          refine WX.ret1 rfl rfl ?_
          exact ⟨rfl, M100.keep⟩
        · skip
          refine WP.as rfl rfl rfl rfl (Ac.bs M96 (parts := [(0, .tmp 48)]) (l := [svV ⟨some ⟨g13, 0, none⟩, cg13, By⟩]) rfl rfl (LitS.one el29 rfl)) ?_; rintro v104 w104 ⟨g14, rfl, hg104, K104, M104⟩
          refine ⟨Keep nof w104, fun u h => K104.trans h, Keep.refl _ _, ?_⟩
          refine WP.a rfl rfl rfl rfl (Ac.call rfl Tryd.func22 nm22 rfl (text_ok w104 3 _ 1 [⟨some ⟨g11, 0, none⟩, cg11, Bx⟩] (by decide) (RdP.one (M104.get (i := 1) rfl) (M104.datrd (i := 2) rfl)) (by simp; omega) (by show (txt 3 [Bx]).length ≤ _; rw [txt_1]; omega))) ?_; rintro v105 w105 N105; refine .inl ⟨rfl, Keep nof w105, ?_⟩
          rw [show txt 3 (([⟨some ⟨g11, 0, none⟩, cg11, Bx⟩] : List SV).map (·.l)) = txt 3 [Bx] from rfl] at N105
          have M105 := M104.new N105
          obtain ⟨A105, c105, rfl⟩ := own_slice (M105.get (i := 0) rfl)
          refine WP.q (Keep.refl _ _) rfl rfl rfl rfl (fun w' hS => Ex.cvBS Tryd.underlying22 Tryd.underlying5 Tryd.underlying9 rfl ((M105.rdr (i := 0) rfl).keep0 hS)) ?_
          refine WP.as rfl rfl rfl rfl (Ac.call rfl Tryd.func22 nm22 rfl (text_ok w105 0 _ 1 [⟨some ⟨g13, 0, none⟩, cg13, By⟩] (by decide) (RdP.one (M105.get (i := 1) rfl) (M105.datrd (i := 4) rfl)) (by simp; omega) (by show (txt 0 [By]).length ≤ _; rw [txt_1]; omega))) ?_; rintro v107 w107 N107
          refine ⟨Keep nof w107, fun u h => N107.keep.trans h, Keep.refl _ _, ?_⟩
          rw [show txt 0 (([⟨some ⟨g13, 0, none⟩, cg13, By⟩] : List SV).map (·.l)) = txt 0 [By] from rfl] at N107
          have M107 := M105.new N107
          obtain ⟨A107, c107, rfl⟩ := own_slice (M107.get (i := 0) rfl)
          refine WP.q (Keep.refl _ _) rfl rfl rfl rfl (fun w' hS => Ex.cvBS Tryd.underlying22 Tryd.underlying5 Tryd.underlying9 rfl ((M107.rdr (i := 0) rfl).keep0 hS)) ?_
          refine WP.p rfl rfl rfl rfl (fun _ => Ex.neS rfl rfl) ?_
          rw [decide_eq_false (fun h => by have := (txt_inj (by decide) (by decide) (by simp; omega) (by simp; omega) h).1; omega)]
          refine WP.p rfl rfl rfl rfl (fun _ => Ex.asg rfl) ?_
          refine WP.nil ?_
          refine WX.next (?_)
          refine WC.ret ?_
          refine WX.ret1 rfl rfl ?_
          exact ⟨rfl, M107.keep⟩
      · skip
        refine WP.as rfl rfl rfl rfl (Ac.bs M95 (parts := [(0, .tmp 48)]) (l := [svV ⟨some ⟨g13, 0, none⟩, cg13, By⟩]) rfl rfl (LitS.one el29 rfl)) ?_; rintro v111 w111 ⟨g14, rfl, hg111, K111, M111⟩
        refine ⟨Keep nof w111, fun u h => K111.trans h, Keep.refl _ _, ?_⟩
        refine WP.a rfl rfl rfl rfl (Ac.bs M111 (parts := [(0, .tmp 43)]) (l := [svV ⟨some ⟨g11, 0, none⟩, cg11, Bx⟩]) rfl rfl (LitS.one el29 rfl)) ?_; rintro v112 w112 ⟨g12, rfl, hg112, K112, M112⟩; refine .inl ⟨rfl, Keep nof w112, ?_⟩
        refine WP.a rfl rfl rfl rfl (Ac.call rfl Tryd.func22 nm22 rfl (text_ok w112 3 _ 1 [⟨some ⟨g11, 0, none⟩, cg11, Bx⟩] (by decide) (RdP.one (M112.get (i := 0) rfl) (M112.datrd (i := 2) rfl)) (by simp; omega) (by show (txt 3 [Bx]).length ≤ _; rw [txt_1]; omega))) ?_; rintro v113 w113 N113; refine .inl ⟨rfl, Keep nof w113, ?_⟩
        rw [show txt 3 (([⟨some ⟨g11, 0, none⟩, cg11, Bx⟩] : List SV).map (·.l)) = txt 3 [Bx] from rfl] at N113
        have M113 := M112.new N113
        obtain ⟨A113, c113, rfl⟩ := own_slice (M113.get (i := 0) rfl)
        refine WP.q (Keep.refl _ _) rfl rfl rfl rfl (fun w' hS => Ex.cvBS Tryd.underlying22 Tryd.underlying5 Tryd.underlying9 rfl ((M113.rdr (i := 0) rfl).keep0 hS)) ?_
        refine WP.as rfl rfl rfl rfl (Ac.call rfl Tryd.func22 nm22 rfl (text_ok w113 0 _ 1 [⟨some ⟨g13, 0, none⟩, cg13, By⟩] (by decide) (RdP.one (M113.get (i := 2) rfl) (M113.datrd (i := 4) rfl)) (by simp; omega) (by show (txt 0 [By]).length ≤ _; rw [txt_1]; omega))) ?_; rintro v115 w115 N115
        refine ⟨Keep nof w115, fun u h => N115.keep.trans h, Keep.refl _ _, ?_⟩
        rw [show txt 0 (([⟨some ⟨g13, 0, none⟩, cg13, By⟩] : List SV).map (·.l)) = txt 0 [By] from rfl] at N115
        have M115 := M113.new N115
        obtain ⟨A115, c115, rfl⟩ := own_slice (M115.get (i := 0) rfl)
        refine WP.q (Keep.refl _ _) rfl rfl rfl rfl (fun w' hS => Ex.cvBS Tryd.underlying22 Tryd.underlying5 Tryd.underlying9 rfl ((M115.rdr (i := 0) rfl).keep0 hS)) ?_
        refine WP.p rfl rfl rfl rfl (fun _ => Ex.neS rfl rfl) ?_
        rw [decide_eq_false (fun h => by have := (txt_inj (by decide) (by decide) (by simp; omega) (by simp; omega) h).1; omega)]
        refine WP.p rfl rfl rfl rfl (fun _ => Ex.asg rfl) ?_
        refine WP.nil ?_
        refine WX.next (?_)
        refine WC.ret ?_
        refine WX.ret1 rfl rfl ?_
        exact ⟨rfl, M115.keep⟩
    · skip
      refine WP.as rfl rfl rfl rfl (Ac.bs M94 (parts := [(0, .tmp 48)]) (l := [svV ⟨some ⟨g13, 0, none⟩, cg13, By⟩]) rfl rfl (LitS.one el29 rfl)) ?_; rintro v119 w119 ⟨g14, rfl, hg119, K119, M119⟩
      refine ⟨Keep nof w119, fun u h => K119.trans h, Keep.refl _ _, ?_⟩
      refine WP.a rfl rfl rfl rfl (Ac.cvSB M119 Tryd.underlying9 Tryd.underlying22 Tryd.underlying5 rfl) ?_; rintro v120 w120 ⟨g11, cg11, rfl, hg120, K120, M120⟩; refine .inl ⟨rfl, Keep nof w120, ?_⟩
      refine WP.a rfl rfl rfl rfl (Ac.bs M120 (parts := [(0, .tmp 43)]) (l := [svV ⟨some ⟨g11, 0, none⟩, cg11, Bx⟩]) rfl rfl (LitS.one el29 rfl)) ?_; rintro v121 w121 ⟨g12, rfl, hg121, K121, M121⟩; refine .inl ⟨rfl, Keep nof w121, ?_⟩
      refine WP.a rfl rfl rfl rfl (Ac.call rfl Tryd.func22 nm22 rfl (text_ok w121 3 _ 1 [⟨some ⟨g11, 0, none⟩, cg11, Bx⟩] (by decide) (RdP.one (M121.get (i := 0) rfl) (M121.datrd (i := 1) rfl)) (by simp; omega) (by show (txt 3 [Bx]).length ≤ _; rw [txt_1]; omega))) ?_; rintro v122 w122 N122; refine .inl ⟨rfl, Keep nof w122, ?_⟩
      rw [show txt 3 (([⟨some ⟨g11, 0, none⟩, cg11, Bx⟩] : List SV).map (·.l)) = txt 3 [Bx] from rfl] at N122
      have M122 := M121.new N122
      obtain ⟨A122, c122, rfl⟩ := own_slice (M122.get (i := 0) rfl)
      refine WP.q (Keep.refl _ _) rfl rfl rfl rfl (fun w' hS => Ex.cvBS Tryd.underlying22 Tryd.underlying5 Tryd.underlying9 rfl ((M122.rdr (i := 0) rfl).keep0 hS)) ?_
      refine WP.as rfl rfl rfl rfl (Ac.call rfl Tryd.func22 nm22 rfl (text_ok w122 0 _ 1 [⟨some ⟨g13, 0, none⟩, cg13, By⟩] (by decide) (RdP.one (M122.get (i := 3) rfl) (M122.datrd (i := 4) rfl)) (by simp; omega) (by show (txt 0 [By]).length ≤ _; rw [txt_1]; omega))) ?_; rintro v124 w124 N124
      refine ⟨Keep nof w124, fun u h => N124.keep.trans h, Keep.refl _ _, ?_⟩
      rw [show txt 0 (([⟨some ⟨g13, 0, none⟩, cg13, By⟩] : List SV).map (·.l)) = txt 0 [By] from rfl] at N124
      have M124 := M122.new N124
      obtain ⟨A124, c124, rfl⟩ := own_slice (M124.get (i := 0) rfl)
      refine WP.q (Keep.refl _ _) rfl rfl rfl rfl (fun w' hS => Ex.cvBS Tryd.underlying22 Tryd.underlying5 Tryd.underlying9 rfl ((M124.rdr (i := 0) rfl).keep0 hS)) ?_
      refine WP.p rfl rfl rfl rfl (fun _ => Ex.neS rfl rfl) ?_
      rw [decide_eq_false (fun h => by have := (txt_inj (by decide) (by decide) (by simp; omega) (by simp; omega) h).1; omega)]
      refine WP.p rfl rfl rfl rfl (fun _ => Ex.asg rfl) ?_
      refine WP.nil ?_
      refine WX.next (?_)
      refine WC.ret ?_
      refine WX.ret1 rfl rfl ?_
      exact ⟨rfl, M124.keep⟩

end Go.Proofs.YtfncnpnjhcaphaaDoor
