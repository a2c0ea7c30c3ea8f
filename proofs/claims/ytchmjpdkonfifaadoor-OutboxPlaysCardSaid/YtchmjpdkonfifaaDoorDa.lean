/- Walks, written by gen.py off the translation's own print: each says what the Go function comes to. -/
import Derived.Test.YtchmjpdkonfifaaDoorFacts
import Derived.Test.YtchmjpdkonfifaaDoorSha
set_option linter.unusedVariables false
set_option linter.unusedSimpArgs false
namespace Go.Proofs.YtchmjpdkonfifaaDoor
open Go.Sx Go.RowKit
attribute [local irreducible] Ac Ex WL WC WX WP Gives

/- bytes.Clone -/
theorem clone_ok (w : World) (A : Option Addr) (c : Nat) (l : List UInt8) (hr : Rd w A (bytesV l)) (hb : l.length ≤ 70368744177664) :
    Gives Tryd.prog 105 #[.slice A l.length c] w fun v w' => New w w' (row v 5 1 l.length (bytesV l)) := by
  have M0 := Mem.start w nof
  refine Gives.enter (n := 8) Tryd.func105 rfl Tryd.ntmps105 rfl (env := [(0, .slice A l.length c)]) rfl ?_
  refine WC.seq ?_
  refine WC.region ?_
  refine WL.ex rfl rfl rfl (Ex.asg rfl) ?_
  refine WL.nil ?_
  refine WX.next (?_)
  refine WC.seq ?_
  refine WC.seq ?_
  refine WC.region ?_
  refine WL.ex rfl rfl rfl (Ex.mv rfl) ?_
  refine WL.ex rfl rfl rfl (Ex.eqN Tryd.underlying112 rfl) ?_
  refine WL.nil ?_
  refine WX.next (?_)
  refine WC.cond rfl (fun hc => ?_) (fun hc => ?_)
  · have hl : l = [] := by
      cases l with
      | nil => rfl
      | cons b r => obtain ⟨a, ha, _⟩ := hr 0 (byteV b) rfl; subst ha; cases hc
    subst hl
    refine WC.seq ?_
    refine WC.region ?_
    refine WL.ex rfl rfl rfl (Ex.asg rfl) ?_
    refine WL.nil ?_
    refine WX.next (?_)
    refine WC.ret ?_
    refine WX.ret_then (?_)
    refine WX.ret1 rfl rfl ?_
    first | exact M0.toNew | exact (M0.free (r := row (.slice none 0 0) 5 1 0 []) (row_nil _ _ _) rfl).toNew
  · skip
    refine WC.skip ?_
    refine WX.next (?_)
    refine WC.seq ?_
    refine WC.region ?_
    refine WL.ac rfl rfl rfl (Ac.bs0 M0 Tryd.underlying112 sz5) ?_; rintro v5 w5 ⟨g5, rfl, hg5, K5, M5⟩
    refine WL.ex rfl rfl rfl (Ex.mv rfl) ?_
    refine WL.ac rfl rfl rfl (Ac.app M5 el112 rfl rfl (i := 0) rfl (by simp) (M5.rd hr) (bytesV_one _) (by simp; omega) (by simp [maxLen]; omega)) ?_; rintro v7 w7 ⟨K7, M7⟩
    try dsimp only [List.set] at M7
    simp only [Nat.zero_add, List.nil_append] at M7
    refine WL.ex rfl rfl rfl (Ex.asg rfl) ?_
    refine WL.nil ?_
    refine WX.next (?_)
    refine WC.ret ?_
    refine WX.ret1 rfl rfl ?_
    first | exact M7.toNew | exact (M7.free (r := row (.slice none 0 0) 5 1 0 []) (row_nil _ _ _) rfl).toNew

end Go.Proofs.YtchmjpdkonfifaaDoor
