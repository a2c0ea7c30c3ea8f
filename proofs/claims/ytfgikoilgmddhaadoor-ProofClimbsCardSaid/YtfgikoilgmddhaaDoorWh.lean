/- Walks, written by gen.py off the translation's own print: each says what the Go function comes to. -/
import Derived.Test.YtfgikoilgmddhaaDoorWe
set_option linter.unusedVariables false
set_option linter.unusedSimpArgs false
namespace Go.Proofs.YtfgikoilgmddhaaDoor
open Go.Sx Go.RowKit
attribute [local irreducible] Ac Ex WL WC WX WP Gives sha

/- sponsion/sponsionlaw11.ProofClimbs -/
theorem proofClimbs_walk (w : World) (z : Int) (r : List UInt8) (n i : Nat) (a : List UInt8) (P : Hs) (hr : H32 r) (hi : i < 18446744073709551616) (ha : H32 a) (hP : PrfOk P) (hT : Tabs w) (hR : TabR w) :
    Gives Tryd.prog 9 #[.int .i64 z, .agg (bytesV r).toArray, .int .u64 (n : Int), .int .u64 (i : Int), .agg (bytesV a).toArray, .agg (prfC P).toArray] w fun u w1 => u = .bool true ∧ Keep nof w w1 := by
  have M0 := Mem.start w nof
  have hc32 := climb_32 (z := z) (i := i) (P := P) ha
  refine Gives.enter (n := 81) Tryd.func9 rfl Tryd.ntmps9 rfl (env := [(0, .int .i64 z), (1, .agg (bytesV r).toArray), (2, .int .u64 (n : Int)), (3, .int .u64 (i : Int)), (4, .agg (bytesV a).toArray), (5, .agg (prfC P).toArray)]) rfl ?_
  refine WC.seq ?_
  refine WC.region ?_
  refine WL.ac rfl rfl rfl (Ac.box M0 rfl rfl) ?_; rintro v1 w1 ⟨gr, rfl, hg1, K1, M1⟩
  refine WL.ac rfl rfl rfl (Ac.box M1 rfl rfl) ?_; rintro v2 w2 ⟨ga, rfl, hg2, K2, M2⟩
  refine WL.ac rfl rfl rfl (Ac.box M2 rfl rfl) ?_; rintro v3 w3 ⟨gP, rfl, hg3, K3, M3⟩
  refine WL.ex rfl rfl rfl (Ex.asg rfl) ?_
  refine WL.nil ?_
  refine WX.next (?_)
  refine WC.seq ?_
  refine WC.seq ?_
  refine WC.region ?_
  refine WL.ac rfl rfl rfl (Ac.call rfl Tryd.func17 nm17 rfl (lives11_ok w3 (hT.keep M3.keep))) ?_; rintro v5 w5 ⟨rfl, K5⟩
  have M5 := M3.step K5
  refine WL.ex rfl rfl rfl (Ex.not rfl) ?_
  refine WL.nil ?_
  refine WX.next (?_)
  refine WC.no rfl ?_
  refine WC.skip ?_
  refine WX.next (?_)
  refine WC.seq ?_
  refine WC.region ?_
  refine WL.ex rfl rfl rfl (Ex.mv rfl) ?_
  refine WL.ex rfl rfl rfl (Ex.mv rfl) ?_
  refine WL.ex rfl rfl rfl (Ex.loadA ty28 rfl (h32_len (by first | assumption | exact h32_0)) (M5.rdw (i := 1) rfl)) ?_
  refine WL.ex rfl rfl rfl (Ex.loadA ty38 rfl (prf_len (by first | assumption | exact prf0_ok)) (M5.rdw (i := 0) rfl)) ?_
  refine WL.ac rfl rfl rfl (Ac.call rfl Tryd.func26 nm26 rfl (climb_ok w5 z i a P hi ha hP (hT.keep M5.keep))) ?_; rintro v11 w11 ⟨rfl, K11⟩
  have M11 := M5.step K11
  refine WL.ex rfl rfl rfl (Ex.mv rfl) ?_
  refine WL.ex rfl rfl rfl (Ex.ext rfl rfl) ?_
  refine WL.ex rfl rfl rfl (Ex.ext rfl rfl) ?_
  refine WL.ac rfl rfl rfl (Ac.alloc M11 (l := bytesV (List.replicate 32 0)) (by kernel_rfl)) ?_; rintro v15 w15 ⟨gh, rfl, hg15, K15, M15⟩
  refine WL.ac0 rfl rfl (Ac.stA M15 ty28 rfl rfl rfl (h32_len (by first | assumption | exact h32_0)) (bytesV_one _) (i := 0) rfl (by first | (rw [h32_len (by first | assumption | exact h32_0), h32_len (by first | assumption | exact h32_0)]; decide) | (rw [h32_len (by first | assumption | exact h32_0)]; decide) | rw [h32_len (by first | assumption | exact h32_0)])) ?_; rintro v16 w16 ⟨K16, M16⟩
  try dsimp only [List.set] at M16
  rw [splice_all _ _ (by first | rw [h32_len (by first | assumption | exact h32_0), h32_len (by first | assumption | exact h32_0)] | rw [h32_len (by first | assumption | exact h32_0)])] at M16
  refine WL.ex rfl rfl rfl (Ex.asg rfl) ?_
  refine WL.nil ?_
  refine WX.next (?_)
  refine WC.seq ?_
  refine WC.region ?_
  refine WL.ex rfl rfl rfl (Ex.mv rfl) ?_
  refine WL.ex rfl rfl rfl (Ex.mv rfl) ?_
  refine WL.ex rfl rfl rfl (Ex.loadA ty28 rfl (h32_len (by first | assumption | exact h32_0)) (M16.rdw (i := 2) rfl)) ?_
  refine WL.ex rfl rfl rfl (Ex.loadA ty38 rfl (prf_len (by first | assumption | exact prf0_ok)) (M16.rdw (i := 1) rfl)) ?_
  refine WL.ac rfl rfl rfl (Ac.call rfl Tryd.func32 nm32 rfl (rClimb_ok w16 z i a P hi ha hP (hR.keep0 M16.keep))) ?_; rintro v22 w22 ⟨rfl, K22⟩
  have M22 := M16.step K22
  refine WL.ex rfl rfl rfl (Ex.mv rfl) ?_
  refine WL.ex rfl rfl rfl (Ex.ext rfl rfl) ?_
  refine WL.ex rfl rfl rfl (Ex.ext rfl rfl) ?_
  refine WL.ac rfl rfl rfl (Ac.alloc M22 (l := bytesV (List.replicate 32 0)) (by kernel_rfl)) ?_; rintro v26 w26 ⟨gk, rfl, hg26, K26, M26⟩
  refine WL.ac0 rfl rfl (Ac.stA M26 ty28 rfl rfl rfl (h32_len (by first | assumption | exact h32_0)) (bytesV_one _) (i := 0) rfl (by first | (rw [h32_len (by first | assumption | exact h32_0), h32_len (by first | assumption | exact h32_0)]; decide) | (rw [h32_len (by first | assumption | exact h32_0)]; decide) | rw [h32_len (by first | assumption | exact h32_0)])) ?_; rintro v27 w27 ⟨K27, M27⟩
  try dsimp only [List.set] at M27
  rw [splice_all _ _ (by first | rw [h32_len (by first | assumption | exact h32_0), h32_len (by first | assumption | exact h32_0)] | rw [h32_len (by first | assumption | exact h32_0)])] at M27
  refine WL.ex rfl rfl rfl (Ex.asg rfl) ?_
  refine WL.nil ?_
  refine WX.next (?_)
  refine WC.seq ?_
  refine WC.seq ?_
  refine WC.region ?_
  refine WL.ex rfl rfl rfl (Ex.loadA ty28 rfl (h32_len (by first | assumption | exact h32_0)) (M27.rdw (i := 1) rfl)) ?_
  refine WL.ex rfl rfl rfl (Ex.loadA ty28 rfl (h32_len (by first | assumption | exact h32_0)) (M27.rdw (i := 0) rfl)) ?_
  refine WL.ex rfl rfl rfl (Ex.neA rfl rfl (eqHash w hc32 hc32)) ?_
  rw [decide_eq_true rfl]
  refine WL.ex rfl rfl rfl (Ex.mv rfl) ?_
  refine WL.yes rfl rfl rfl rfl ?_
  refine WL.ex rfl rfl rfl (Ex.mv rfl) ?_
  refine WL.yes rfl rfl rfl rfl ?_
  refine WL.ex rfl rfl rfl (Ex.mv rfl) ?_
  refine WL.yes rfl rfl rfl rfl ?_
  refine WL.ex rfl rfl rfl (Ex.neI rfl rfl) ?_
  rw [show (!decide ((climbR z i a P).2 = (climbR z i a P).2)) = false by simp]
  refine WL.ex rfl rfl rfl (Ex.pickF rfl rfl) ?_
  refine WL.nil ?_
  refine WX.next (?_)
  refine WC.no rfl ?_
  refine WC.skip ?_
  refine WX.next (?_)
  refine WC.seq ?_
  refine WC.region ?_
  refine WL.ex rfl rfl rfl (Ex.mv rfl) ?_
  refine WL.ex rfl rfl rfl (Ex.asg rfl) ?_
  refine WL.nil ?_
  refine WX.next (?_)
  refine WC.seq ?_
  refine WC.seq ?_
  refine WC.region ?_
  refine WL.ex rfl rfl rfl (Ex.mv rfl) ?_
  refine WL.ex rfl rfl rfl (Ex.eqI rfl rfl) ?_
  refine WL.ex rfl rfl rfl (Ex.mv rfl) ?_
  by_cases he : (climbR z i a P).2 = 0
  · rw [decide_eq_true he]
    refine WL.yes rfl rfl rfl rfl ?_
    refine WL.ex rfl rfl rfl (Ex.mv rfl) ?_
    refine WL.yes rfl rfl rfl rfl ?_
    refine WL.ex rfl rfl rfl (Ex.mv rfl) ?_
    refine WL.yes rfl rfl rfl rfl ?_
    refine WL.ex rfl rfl rfl (Ex.geq rfl rfl) ?_
    by_cases hin : (i : Int) ≥ (n : Int)
    · rw [decide_eq_true hin]
      have hck : checkR z r n i a P = 10 := by unfold checkR; rw [if_neg (by simpa using he), if_pos (by omega)]
      have hck2 : checkR z (climbR z i a P).1 n i a P = 10 := by unfold checkR; rw [if_neg (by simpa using he), if_pos (by omega)]
      refine WL.ex rfl rfl rfl (Ex.pickT rfl rfl) ?_
      refine WL.nil ?_
      refine WX.next (?_)
      refine WC.yes rfl ?_
      refine WC.region ?_
      refine WL.ex rfl rfl rfl (Ex.asg rfl) ?_
      refine WL.nil ?_
      refine WX.next (?_)
      refine WC.seq ?_
      refine WC.region ?_
      refine WL.ex rfl rfl rfl (Ex.mv rfl) ?_
      refine WL.ex rfl rfl rfl (Ex.asg rfl) ?_
      refine WL.nil ?_
      refine WX.next (?_)
      refine WC.seq ?_
      refine WC.seq ?_
      refine WC.region ?_
      refine WL.ex rfl rfl rfl (Ex.mv rfl) ?_
      refine WL.ex rfl rfl rfl (Ex.eqI rfl rfl) ?_
      rw [show decide ((10 : Int) = 0) = false from rfl]
      refine WL.ex rfl rfl rfl (Ex.mv rfl) ?_
      refine WL.no rfl rfl rfl rfl rfl rfl ?_
      refine WL.no rfl rfl rfl rfl rfl rfl ?_
      refine WL.no rfl rfl rfl rfl rfl rfl ?_
      refine WL.ex rfl rfl rfl (Ex.pickF rfl rfl) ?_
      refine WL.nil ?_
      refine WX.next (?_)
      refine WC.no rfl ?_
      refine WC.skip ?_
      refine WX.next (?_)
      refine WC.seq ?_
      refine WC.region ?_
      refine WL.ex rfl rfl rfl (Ex.mv rfl) ?_
      refine WL.ex rfl rfl rfl (Ex.loadA ty28 rfl (h32_len (by first | assumption | exact h32_0)) (M27.rdw (i := 4) rfl)) ?_
      refine WL.ex rfl rfl rfl (Ex.mv rfl) ?_
      refine WL.ex rfl rfl rfl (Ex.mv rfl) ?_
      refine WL.ex rfl rfl rfl (Ex.loadA ty28 rfl (h32_len (by first | assumption | exact h32_0)) (M27.rdw (i := 3) rfl)) ?_
      refine WL.ex rfl rfl rfl (Ex.loadA ty38 rfl (prf_len (by first | assumption | exact prf0_ok)) (M27.rdw (i := 2) rfl)) ?_
      refine WL.ac rfl rfl rfl (Ac.call rfl Tryd.func33 nm33 rfl (check_ok w27 z r n i a P hr hi ha hP (hT.keep M27.keep))) ?_; rintro v59 w59 ⟨rfl, K59⟩
      rw [hck]
      have M59 := M27.step K59
      refine WL.ex rfl rfl rfl (Ex.mv rfl) ?_
      refine WL.ex rfl rfl rfl (Ex.eqI rfl rfl) ?_
      rw [decide_eq_true rfl]
      refine WL.ex rfl rfl rfl (Ex.mv rfl) ?_
      refine WL.yes rfl rfl rfl rfl ?_
      refine WL.ex rfl rfl rfl (Ex.mv rfl) ?_
      refine WL.yes rfl rfl rfl rfl ?_
      refine WL.ex rfl rfl rfl (Ex.loadA ty28 rfl (h32_len (by first | assumption | exact h32_0)) (M59.rdw (i := 1) rfl)) ?_
      refine WL.yes rfl rfl rfl rfl ?_
      refine WL.ex rfl rfl rfl (Ex.mv rfl) ?_
      refine WL.yes rfl rfl rfl rfl ?_
      refine WL.ex rfl rfl rfl (Ex.mv rfl) ?_
      refine WL.yes rfl rfl rfl rfl ?_
      refine WL.ex rfl rfl rfl (Ex.loadA ty28 rfl (h32_len (by first | assumption | exact h32_0)) (M59.rdw (i := 3) rfl)) ?_
      refine WL.yes rfl rfl rfl rfl ?_
      refine WL.ex rfl rfl rfl (Ex.loadA ty38 rfl (prf_len (by first | assumption | exact prf0_ok)) (M59.rdw (i := 2) rfl)) ?_
      refine WL.yes rfl rfl rfl rfl ?_
      refine WL.ac rfl rfl rfl (Ac.call rfl Tryd.func33 nm33 rfl (check_ok w59 z (climbR z i a P).1 n i a P hc32 hi ha hP (hT.keep M59.keep))) ?_; rintro v69 w69 ⟨rfl, K69⟩
      rw [hck2]
      have M69 := M59.step K69
      refine WL.yes rfl rfl rfl rfl ?_
      refine WL.ex rfl rfl rfl (Ex.mv rfl) ?_
      refine WL.yes rfl rfl rfl rfl ?_
      refine WL.ex rfl rfl rfl (Ex.eqI rfl rfl) ?_
      rw [decide_eq_true rfl]
      refine WL.ex rfl rfl rfl (Ex.pickT rfl rfl) ?_
      refine WL.ex rfl rfl rfl (Ex.asg rfl) ?_
      refine WL.nil ?_
      refine WX.next (?_)
      refine WC.ret ?_
      refine WX.ret1 rfl rfl ?_
      exact ⟨rfl, M69.keep⟩
    · rw [decide_eq_false hin]
      have hck2 : checkR z (climbR z i a P).1 n i a P = (climbR z i a P).2 := by unfold checkR; rw [if_neg (by simpa using he), if_neg (by omega), if_neg (by simp), he]
      refine WL.ex rfl rfl rfl (Ex.pickT rfl rfl) ?_
      refine WL.nil ?_
      refine WX.next (?_)
      refine WC.no rfl ?_
      refine WC.skip ?_
      refine WX.next (?_)
      refine WC.seq ?_
      refine WC.region ?_
      refine WL.ex rfl rfl rfl (Ex.mv rfl) ?_
      refine WL.ex rfl rfl rfl (Ex.asg rfl) ?_
      refine WL.nil ?_
      refine WX.next (?_)
      refine WC.seq ?_
      refine WC.seq ?_
      refine WC.region ?_
      refine WL.ex rfl rfl rfl (Ex.mv rfl) ?_
      refine WL.ex rfl rfl rfl (Ex.eqI rfl rfl) ?_
      rw [decide_eq_true he]
      refine WL.ex rfl rfl rfl (Ex.mv rfl) ?_
      refine WL.yes rfl rfl rfl rfl ?_
      refine WL.ex rfl rfl rfl (Ex.loadA ty28 rfl (h32_len (by first | assumption | exact h32_0)) (M27.rdw (i := 1) rfl)) ?_
      refine WL.yes rfl rfl rfl rfl ?_
      refine WL.ex rfl rfl rfl (Ex.loadA ty28 rfl (h32_len (by first | assumption | exact h32_0)) (M27.rdw (i := 4) rfl)) ?_
      refine WL.yes rfl rfl rfl rfl ?_
      refine WL.ex rfl rfl rfl (Ex.neA rfl rfl (eqHash w hc32 hr)) ?_
      by_cases hne : ¬ (climbR z i a P).1 = r
      · rw [decide_eq_false hne]
        have hck : checkR z r n i a P = 14 := by unfold checkR; rw [if_neg (by simpa using he), if_neg (by omega), if_pos hne]
        refine WL.ex rfl rfl rfl (Ex.pickT rfl rfl) ?_
        refine WL.nil ?_
        refine WX.next (?_)
        refine WC.yes rfl ?_
        refine WC.region ?_
        refine WL.ex rfl rfl rfl (Ex.asg rfl) ?_
        refine WL.nil ?_
        refine WX.next (?_)
        refine WC.seq ?_
        refine WC.region ?_
        refine WL.ex rfl rfl rfl (Ex.mv rfl) ?_
        refine WL.ex rfl rfl rfl (Ex.loadA ty28 rfl (h32_len (by first | assumption | exact h32_0)) (M27.rdw (i := 4) rfl)) ?_
        refine WL.ex rfl rfl rfl (Ex.mv rfl) ?_
        refine WL.ex rfl rfl rfl (Ex.mv rfl) ?_
        refine WL.ex rfl rfl rfl (Ex.loadA ty28 rfl (h32_len (by first | assumption | exact h32_0)) (M27.rdw (i := 3) rfl)) ?_
        refine WL.ex rfl rfl rfl (Ex.loadA ty38 rfl (prf_len (by first | assumption | exact prf0_ok)) (M27.rdw (i := 2) rfl)) ?_
        refine WL.ac rfl rfl rfl (Ac.call rfl Tryd.func33 nm33 rfl (check_ok w27 z r n i a P hr hi ha hP (hT.keep M27.keep))) ?_; rintro v91 w91 ⟨rfl, K91⟩
        rw [hck]
        have M91 := M27.step K91
        refine WL.ex rfl rfl rfl (Ex.mv rfl) ?_
        refine WL.ex rfl rfl rfl (Ex.eqI rfl rfl) ?_
        rw [decide_eq_true rfl]
        refine WL.ex rfl rfl rfl (Ex.mv rfl) ?_
        refine WL.yes rfl rfl rfl rfl ?_
        refine WL.ex rfl rfl rfl (Ex.mv rfl) ?_
        refine WL.yes rfl rfl rfl rfl ?_
        refine WL.ex rfl rfl rfl (Ex.loadA ty28 rfl (h32_len (by first | assumption | exact h32_0)) (M91.rdw (i := 1) rfl)) ?_
        refine WL.yes rfl rfl rfl rfl ?_
        refine WL.ex rfl rfl rfl (Ex.mv rfl) ?_
        refine WL.yes rfl rfl rfl rfl ?_
        refine WL.ex rfl rfl rfl (Ex.mv rfl) ?_
        refine WL.yes rfl rfl rfl rfl ?_
        refine WL.ex rfl rfl rfl (Ex.loadA ty28 rfl (h32_len (by first | assumption | exact h32_0)) (M91.rdw (i := 3) rfl)) ?_
        refine WL.yes rfl rfl rfl rfl ?_
        refine WL.ex rfl rfl rfl (Ex.loadA ty38 rfl (prf_len (by first | assumption | exact prf0_ok)) (M91.rdw (i := 2) rfl)) ?_
        refine WL.yes rfl rfl rfl rfl ?_
        refine WL.ac rfl rfl rfl (Ac.call rfl Tryd.func33 nm33 rfl (check_ok w91 z (climbR z i a P).1 n i a P hc32 hi ha hP (hT.keep M91.keep))) ?_; rintro v101 w101 ⟨rfl, K101⟩
        rw [hck2]
        have M101 := M91.step K101
        refine WL.yes rfl rfl rfl rfl ?_
        refine WL.ex rfl rfl rfl (Ex.mv rfl) ?_
        refine WL.yes rfl rfl rfl rfl ?_
        refine WL.ex rfl rfl rfl (Ex.eqI rfl rfl) ?_
        rw [decide_eq_true rfl]
        refine WL.ex rfl rfl rfl (Ex.pickT rfl rfl) ?_
        refine WL.ex rfl rfl rfl (Ex.asg rfl) ?_
        refine WL.nil ?_
        refine WX.next (?_)
        refine WC.ret ?_
        refine WX.ret1 rfl rfl ?_
        exact ⟨rfl, M101.keep⟩
      · rw [decide_eq_true (Decidable.not_not.1 hne)]
        have hck : checkR z r n i a P = (climbR z i a P).2 := by unfold checkR; rw [if_neg (by simpa using he), if_neg (by omega), if_neg hne, he]
        refine WL.ex rfl rfl rfl (Ex.pickT rfl rfl) ?_
        refine WL.nil ?_
        refine WX.next (?_)
        refine WC.no rfl ?_
        refine WC.skip ?_
        refine WX.next (?_)
        refine WC.seq ?_
        refine WC.region ?_
        refine WL.ex rfl rfl rfl (Ex.mv rfl) ?_
        refine WL.ex rfl rfl rfl (Ex.loadA ty28 rfl (h32_len (by first | assumption | exact h32_0)) (M27.rdw (i := 4) rfl)) ?_
        refine WL.ex rfl rfl rfl (Ex.mv rfl) ?_
        refine WL.ex rfl rfl rfl (Ex.mv rfl) ?_
        refine WL.ex rfl rfl rfl (Ex.loadA ty28 rfl (h32_len (by first | assumption | exact h32_0)) (M27.rdw (i := 3) rfl)) ?_
        refine WL.ex rfl rfl rfl (Ex.loadA ty38 rfl (prf_len (by first | assumption | exact prf0_ok)) (M27.rdw (i := 2) rfl)) ?_
        refine WL.ac rfl rfl rfl (Ac.call rfl Tryd.func33 nm33 rfl (check_ok w27 z r n i a P hr hi ha hP (hT.keep M27.keep))) ?_; rintro v113 w113 ⟨rfl, K113⟩
        rw [hck]
        have M113 := M27.step K113
        refine WL.ex rfl rfl rfl (Ex.mv rfl) ?_
        refine WL.ex rfl rfl rfl (Ex.eqI rfl rfl) ?_
        rw [decide_eq_true rfl]
        refine WL.ex rfl rfl rfl (Ex.mv rfl) ?_
        refine WL.yes rfl rfl rfl rfl ?_
        refine WL.ex rfl rfl rfl (Ex.mv rfl) ?_
        refine WL.yes rfl rfl rfl rfl ?_
        refine WL.ex rfl rfl rfl (Ex.loadA ty28 rfl (h32_len (by first | assumption | exact h32_0)) (M113.rdw (i := 1) rfl)) ?_
        refine WL.yes rfl rfl rfl rfl ?_
        refine WL.ex rfl rfl rfl (Ex.mv rfl) ?_
        refine WL.yes rfl rfl rfl rfl ?_
        refine WL.ex rfl rfl rfl (Ex.mv rfl) ?_
        refine WL.yes rfl rfl rfl rfl ?_
        refine WL.ex rfl rfl rfl (Ex.loadA ty28 rfl (h32_len (by first | assumption | exact h32_0)) (M113.rdw (i := 3) rfl)) ?_
        refine WL.yes rfl rfl rfl rfl ?_
        refine WL.ex rfl rfl rfl (Ex.loadA ty38 rfl (prf_len (by first | assumption | exact prf0_ok)) (M113.rdw (i := 2) rfl)) ?_
        refine WL.yes rfl rfl rfl rfl ?_
        refine WL.ac rfl rfl rfl (Ac.call rfl Tryd.func33 nm33 rfl (check_ok w113 z (climbR z i a P).1 n i a P hc32 hi ha hP (hT.keep M113.keep))) ?_; rintro v123 w123 ⟨rfl, K123⟩
        rw [hck2]
        have M123 := M113.step K123
        refine WL.yes rfl rfl rfl rfl ?_
        refine WL.ex rfl rfl rfl (Ex.mv rfl) ?_
        refine WL.yes rfl rfl rfl rfl ?_
        refine WL.ex rfl rfl rfl (Ex.eqI rfl rfl) ?_
        rw [decide_eq_true rfl]
        refine WL.ex rfl rfl rfl (Ex.pickT rfl rfl) ?_
        refine WL.ex rfl rfl rfl (Ex.asg rfl) ?_
        refine WL.nil ?_
        refine WX.next (?_)
        refine WC.ret ?_
        refine WX.ret1 rfl rfl ?_
        exact ⟨rfl, M123.keep⟩
  · rw [decide_eq_false he]
    have hck : checkR z r n i a P = (climbR z i a P).2 := if_pos he
    have hck2 : checkR z (climbR z i a P).1 n i a P = (climbR z i a P).2 := if_pos he
    refine WL.no rfl rfl rfl rfl rfl rfl ?_
    refine WL.no rfl rfl rfl rfl rfl rfl ?_
    refine WL.no rfl rfl rfl rfl rfl rfl ?_
    refine WL.ex rfl rfl rfl (Ex.pickF rfl rfl) ?_
    refine WL.nil ?_
    refine WX.next (?_)
    refine WC.no rfl ?_
    refine WC.skip ?_
    refine WX.next (?_)
    refine WC.seq ?_
    refine WC.region ?_
    refine WL.ex rfl rfl rfl (Ex.mv rfl) ?_
    refine WL.ex rfl rfl rfl (Ex.asg rfl) ?_
    refine WL.nil ?_
    refine WX.next (?_)
    refine WC.seq ?_
    refine WC.seq ?_
    refine WC.region ?_
    refine WL.ex rfl rfl rfl (Ex.mv rfl) ?_
    refine WL.ex rfl rfl rfl (Ex.eqI rfl rfl) ?_
    rw [decide_eq_false he]
    refine WL.ex rfl rfl rfl (Ex.mv rfl) ?_
    refine WL.no rfl rfl rfl rfl rfl rfl ?_
    refine WL.no rfl rfl rfl rfl rfl rfl ?_
    refine WL.no rfl rfl rfl rfl rfl rfl ?_
    refine WL.ex rfl rfl rfl (Ex.pickF rfl rfl) ?_
    refine WL.nil ?_
    refine WX.next (?_)
    refine WC.no rfl ?_
    refine WC.skip ?_
    refine WX.next (?_)
    refine WC.seq ?_
    refine WC.region ?_
    refine WL.ex rfl rfl rfl (Ex.mv rfl) ?_
    refine WL.ex rfl rfl rfl (Ex.loadA ty28 rfl (h32_len (by first | assumption | exact h32_0)) (M27.rdw (i := 4) rfl)) ?_
    refine WL.ex rfl rfl rfl (Ex.mv rfl) ?_
    refine WL.ex rfl rfl rfl (Ex.mv rfl) ?_
    refine WL.ex rfl rfl rfl (Ex.loadA ty28 rfl (h32_len (by first | assumption | exact h32_0)) (M27.rdw (i := 3) rfl)) ?_
    refine WL.ex rfl rfl rfl (Ex.loadA ty38 rfl (prf_len (by first | assumption | exact prf0_ok)) (M27.rdw (i := 2) rfl)) ?_
    refine WL.ac rfl rfl rfl (Ac.call rfl Tryd.func33 nm33 rfl (check_ok w27 z r n i a P hr hi ha hP (hT.keep M27.keep))) ?_; rintro v141 w141 ⟨rfl, K141⟩
    rw [hck]
    have M141 := M27.step K141
    refine WL.ex rfl rfl rfl (Ex.mv rfl) ?_
    refine WL.ex rfl rfl rfl (Ex.eqI rfl rfl) ?_
    rw [decide_eq_true rfl]
    refine WL.ex rfl rfl rfl (Ex.mv rfl) ?_
    refine WL.yes rfl rfl rfl rfl ?_
    refine WL.ex rfl rfl rfl (Ex.mv rfl) ?_
    refine WL.yes rfl rfl rfl rfl ?_
    refine WL.ex rfl rfl rfl (Ex.loadA ty28 rfl (h32_len (by first | assumption | exact h32_0)) (M141.rdw (i := 1) rfl)) ?_
    refine WL.yes rfl rfl rfl rfl ?_
    refine WL.ex rfl rfl rfl (Ex.mv rfl) ?_
    refine WL.yes rfl rfl rfl rfl ?_
    refine WL.ex rfl rfl rfl (Ex.mv rfl) ?_
    refine WL.yes rfl rfl rfl rfl ?_
    refine WL.ex rfl rfl rfl (Ex.loadA ty28 rfl (h32_len (by first | assumption | exact h32_0)) (M141.rdw (i := 3) rfl)) ?_
    refine WL.yes rfl rfl rfl rfl ?_
    refine WL.ex rfl rfl rfl (Ex.loadA ty38 rfl (prf_len (by first | assumption | exact prf0_ok)) (M141.rdw (i := 2) rfl)) ?_
    refine WL.yes rfl rfl rfl rfl ?_
    refine WL.ac rfl rfl rfl (Ac.call rfl Tryd.func33 nm33 rfl (check_ok w141 z (climbR z i a P).1 n i a P hc32 hi ha hP (hT.keep M141.keep))) ?_; rintro v151 w151 ⟨rfl, K151⟩
    rw [hck2]
    have M151 := M141.step K151
    refine WL.yes rfl rfl rfl rfl ?_
    refine WL.ex rfl rfl rfl (Ex.mv rfl) ?_
    refine WL.yes rfl rfl rfl rfl ?_
    refine WL.ex rfl rfl rfl (Ex.eqI rfl rfl) ?_
    rw [decide_eq_true rfl]
    refine WL.ex rfl rfl rfl (Ex.pickT rfl rfl) ?_
    refine WL.ex rfl rfl rfl (Ex.asg rfl) ?_
    refine WL.nil ?_
    refine WX.next (?_)
    refine WC.ret ?_
    refine WX.ret1 rfl rfl ?_
    exact ⟨rfl, M151.keep⟩

end Go.Proofs.YtfgikoilgmddhaaDoor
