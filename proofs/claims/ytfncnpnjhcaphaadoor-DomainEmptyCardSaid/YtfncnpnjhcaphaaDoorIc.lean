/- Walks, written by gen.py off the translation's own print: each says what the Go function comes to. -/
import Derived.Test.YtfncnpnjhcaphaaDoorIa
set_option linter.unusedVariables false
set_option linter.unusedSimpArgs false
namespace Go.Proofs.YtfncnpnjhcaphaaDoor
open Go.Sx Go.RowKit
attribute [local irreducible] Ac Ex WL WC WX WP Gives sha

/- sponsion/sponsionlaw06.DomainEmpty -/
theorem domainEmpty_walk (w : World) (z : Int) (hz : -9223372036854775808 ≤ z ∧ z ≤ 9223372036854775807) (hT : Tabs w) (hR : TabR w) :
    Gives Tryd.prog 9 #[.int .i64 z] w fun u w1 => u = .bool true ∧ Keep nof w w1 := by
  have M0 := Mem.start w nof
  have hl32 := lvl_le z
  have he33 := empTo_ok 33
  have hge := empTo_get (k := 33) (i := lvl z) (by omega) (by omega)
  have hg0 := empTo_get (k := 33) (i := 0) (by omega) (by omega)
  refine Gives.enter (n := 28) Tryd.func9 rfl Tryd.ntmps9 rfl (env := [(0, .int .i64 z)]) rfl ?_
  refine WC.seq ?_
  refine WC.region ?_
  refine WL.ex rfl rfl rfl (Ex.asg rfl) ?_
  refine WL.nil ?_
  refine WX.next (?_)
  refine WC.seq ?_
  refine WC.seq ?_
  refine WC.region ?_
  refine WL.ac rfl rfl rfl (Ac.call rfl Tryd.func20 nm20 rfl (lives06_ok w)) ?_; rintro v2 w2 ⟨rfl, K2⟩
  have M2 := M0.step K2
  refine WL.ex rfl rfl rfl (Ex.not rfl) ?_
  refine WL.nil ?_
  refine WX.next (?_)
  refine WC.no rfl ?_
  refine WC.skip ?_
  refine WX.next (?_)
  refine WC.seq ?_
  refine WC.region ?_
  refine WL.ac rfl rfl rfl (Ac.call rfl Tryd.func30 nm30 rfl (empties_ok w2 (hR.keep0 M2.keep))) ?_; rintro v4 w4 ⟨rfl, K4⟩
  have M4 := M2.step K4
  refine WL.ac rfl rfl rfl (Ac.alloc M4 (l := empC emp0) (by kernel_rfl)) ?_; rintro v5 w5 ⟨ge, rfl, hg5, K5, M5⟩
  refine WL.ac0 rfl rfl (Ac.stA M5 ty48 rfl rfl rfl (emp_len he33) emp_one (i := 0) rfl (by rw [emp_len he33, emp_len emp0_ok]; decide)) ?_; rintro v6 w6 ⟨K6, M6⟩
  try dsimp only [List.set] at M6
  rw [splice_all _ _ (by rw [emp_len he33, emp_len emp0_ok])] at M6
  refine WL.nil ?_
  refine WX.next (?_)
  refine WC.seq ?_
  refine WC.draw (Keep nof w6.drew) [] (.one 0 0 (.one 2 0 (.one 3 0 (.one 4 0 (.one 5 0 (.one 6 1 (.one 1 2 (.one 7 0 (.one 8 0 (.one 10 0 (.one 11 1 (.one 9 2 (.one 12 0 (.one 13 0 (.one 14 0 (.one 17 0 (.one 18 1 (.one 15 2 (.one 16 2 (.one 19 0 (.one 20 0 (.one 21 0 .nil)))))))))))))))))))))) mixed (by kernel_rfl) (by kernel_rfl) (by kernel_rfl) (HQ.then_ HQ.body) ?_
  obtain ⟨w7, hw7⟩ : ∃ v, v = w6.drew := ⟨_, rfl⟩
  have D7 : Keep nof w6 w7 := by rw [hw7]; exact Keep.drew _ _
  have M7 := M6.step D7
  rw [← hw7]; clear hw7
  refine WP.p rfl rfl rfl rfl (fun _ => Ex.mv rfl) ?_
  refine WP.p rfl rfl rfl rfl (fun _ => Ex.mv rfl) ?_
  refine WP.p rfl rfl rfl rfl (fun _ => Ex.min2 rfl rfl (c := min z 32) (by split <;> omega)) ?_
  refine WP.p rfl rfl rfl rfl (fun _ => Ex.max2 rfl rfl (c := ((lvl z : Nat) : Int)) (by unfold lvl; split <;> omega)) ?_
  refine WP.p rfl rfl rfl rfl (fun _ => Ex.iaA Tryd.underlying48 sz25 rfl rfl ⟨by omega, by omega⟩) ?_
  refine WP.q (Keep.refl _ _) rfl rfl rfl rfl (fun w' hS => Ex.loadA ty25 rfl (h32_len (emptyH_len (lvl z))) ((M7.rdt (m := 32) (i := 0) rfl (flat_at (i := lvl z) (empTo_l _) hge (by simp only [Nat.zero_add, Int.toNat_natCast]))).keep0 hS)) ?_
  refine WP.as rfl rfl rfl rfl (Ac.call rfl Tryd.func31 nm31 rfl (empty_ok w7 z hz (hT.keep M7.keep))) ?_; rintro v14 w14 ⟨rfl, K14⟩
  refine ⟨Keep nof w14, fun u h => K14.trans h, Keep.refl _ _, ?_⟩
  have M14 := M7.step K14
  refine WP.p rfl rfl rfl rfl (fun _ => Ex.eqA rfl rfl (eqHash w (emptyH_len _) (emptyH_len _))) ?_
  rw [decide_eq_true rfl]
  refine WP.p rfl rfl rfl rfl (fun _ => Ex.mv rfl) ?_
  refine WP.py rfl rfl rfl rfl rfl rfl (fun _ => Ex.iaA Tryd.underlying48 sz25 rfl rfl ⟨by omega, by omega⟩) ?_
  refine WP.qy (Keep.refl _ _) rfl rfl rfl rfl rfl rfl (fun w' hS => Ex.loadA ty25 rfl (h32_len (emptyH_len 0)) ((M14.rdt (m := 32) (i := 0) rfl (flat_at (i := 0) (empTo_l _) hg0 rfl)).keep0 hS)) ?_
  refine WP.ays rfl rfl rfl rfl rfl rfl (Ac.call rfl Tryd.func25 nm25 rfl (domOf_ok w14 2 _ _ [] (by decide) (RdP.nil _ _) (hT.keep M14.keep) (by simp) (by decide))) ?_; rintro v19 w19 ⟨rfl, K19⟩
  refine ⟨Keep nof w19, fun u h => K19.trans h, Keep.refl _ _, ?_⟩
  rw [show dOf 2 (([] : List SV).map (·.l)) = emptyH 0 from rfl]
  have M19 := M14.step K19
  refine WP.py rfl rfl rfl rfl rfl rfl (fun _ => Ex.eqA rfl rfl (eqHash w (emptyH_len 0) (emptyH_len 0))) ?_
  rw [decide_eq_true rfl]
  refine WP.p rfl rfl rfl rfl (fun _ => Ex.pickT rfl rfl) ?_
  refine WP.p rfl rfl rfl rfl (fun _ => Ex.mv rfl) ?_
  refine WP.py rfl rfl rfl rfl rfl rfl (fun _ => Ex.iaA Tryd.underlying48 sz25 rfl rfl ⟨by omega, by omega⟩) ?_
  refine WP.qy (Keep.refl _ _) rfl rfl rfl rfl rfl rfl (fun w' hS => Ex.loadA ty25 rfl (h32_len (emptyH_len 0)) ((M19.rdt (m := 32) (i := 0) rfl (flat_at (i := 0) (empTo_l _) hg0 rfl)).keep0 hS)) ?_
  refine WP.ays rfl rfl rfl rfl rfl rfl (Ac.call rfl Tryd.func22 nm22 rfl (text_ok w19 2 _ 0 [] (by decide) (RdP.nil _ _) (by simp) (by decide))) ?_; rintro v25 w25 N25
  refine ⟨Keep nof w25, fun u h => N25.keep.trans h, Keep.refl _ _, ?_⟩
  have M25 := M19.new N25
  obtain ⟨A25, c25, rfl⟩ := own_slice (M25.get (i := 0) rfl)
  refine WP.ays rfl rfl rfl rfl rfl rfl (Ac.call rfl Tryd.func14 nm14 rfl (rsum_ok w25 _ _ (txt 2 []) (M25.rdr (i := 0) rfl) (hR.keep0 M25.keep) (by decide))) ?_; rintro v26 w26 ⟨rfl, K26⟩
  refine ⟨Keep nof w26, fun u h => K26.trans h, Keep.refl _ _, ?_⟩
  rw [show sha (txt 2 []) = emptyH 0 from rfl]
  have M26 := M25.step K26
  refine WP.py rfl rfl rfl rfl rfl rfl (fun _ => Ex.eqA rfl rfl (eqHash w (emptyH_len 0) (emptyH_len 0))) ?_
  rw [decide_eq_true rfl]
  refine WP.p rfl rfl rfl rfl (fun _ => Ex.pickT rfl rfl) ?_
  refine WP.p rfl rfl rfl rfl (fun _ => Ex.asg rfl) ?_
  refine WP.nil ?_
  refine WX.next (?_)
  refine WC.ret ?_
  refine WX.ret1 rfl rfl ?_
  exact ⟨rfl, M26.keep⟩
  -- UNUSED HINTS ['2.0']

end Go.Proofs.YtfncnpnjhcaphaaDoor
