/- Walks, written by gen.py off the translation's own print: each says what the Go function comes to. -/
import Derived.Test.YtfncnpnjhcaphaaDoorFa
import Derived.Test.YtfncnpnjhcaphaaDoorExt
set_option linter.unusedVariables false
set_option linter.unusedSimpArgs false
namespace Go.Proofs.YtfncnpnjhcaphaaDoor
open Go.Sx Go.RowKit
attribute [local irreducible] Ac Ex WL WC WX WP Gives sha

/- bytes.Compare -/
theorem cmp_ok (w : World) (ga oa gb ob : Nat) (a b : List UInt8) (ca cb : Nat) (ha : Rd w (some ⟨ga, oa, none⟩) (bytesV a)) (hb : Rd w (some ⟨gb, ob, none⟩) (bytesV b)) :
    Gives Tryd.prog 47 #[.slice (some ⟨ga, oa, none⟩) a.length ca, .slice (some ⟨gb, ob, none⟩) b.length cb] w fun u w1 => u = .int .i64 (Lib.compareBytes a b) ∧ Keep nof w w1 := by
  have M0 := Mem.start w nof
  refine Gives.enter (n := 8) Tryd.func47 rfl Tryd.ntmps47 rfl (env := [(0, .slice (some ⟨ga, oa, none⟩) a.length ca), (1, .slice (some ⟨gb, ob, none⟩) b.length cb)]) rfl ?_
  refine WC.seq ?_
  refine WC.region ?_
  refine WL.ex rfl rfl rfl (Ex.asg rfl) ?_
  refine WL.nil ?_
  refine WX.next (?_)
  refine WC.seq ?_
  refine WC.region ?_
  refine WL.ex rfl rfl rfl (Ex.mv rfl) ?_
  refine WL.ex rfl rfl rfl (Ex.mv rfl) ?_
  refine WL.ac rfl rfl rfl (Ac.ext rfl Tryd.func60 (by kernel_rfl) (by kernel_rfl) (by kernel_rfl) (e := Extern.BytealgCompare.compare) (by kernel_rfl) (run_cmpB (M0.rd ha) (M0.rd hb))) ?_; rintro v4 w4 ⟨rfl, K4⟩
  have M4 := M0.step K4
  refine WL.ex rfl rfl rfl (Ex.asg rfl) ?_
  refine WL.nil ?_
  refine WX.next (?_)
  refine WC.ret ?_
  refine WX.ret1 rfl rfl ?_
  exact ⟨rfl, M4.keep⟩

/- sponsion/digest.Less -/
theorem less_ok (w : World) (a b : List UInt8) (ha : H32 a) (hb : H32 b) :
    Gives Tryd.prog 18 #[.agg (bytesV a).toArray, .agg (bytesV b).toArray] w fun u w1 => u = .bool (decide (Lib.compareBytes a b < 0)) ∧ Keep nof w w1 := by
  have M0 := Mem.start w nof
  have ha0 : a.length = 32 := ha
  have hb0 : b.length = 32 := hb
  refine Gives.enter (n := 9) Tryd.func18 rfl Tryd.ntmps18 rfl (env := [(0, .agg (bytesV a).toArray), (1, .agg (bytesV b).toArray)]) rfl ?_
  refine WC.seq ?_
  refine WC.region ?_
  refine WL.ac rfl rfl rfl (Ac.box M0 rfl rfl) ?_; rintro v1 w1 ⟨ga, rfl, hg1, K1, M1⟩
  refine WL.ac rfl rfl rfl (Ac.box M1 rfl rfl) ?_; rintro v2 w2 ⟨gb, rfl, hg2, K2, M2⟩
  refine WL.ex rfl rfl rfl (Ex.asg rfl) ?_
  refine WL.nil ?_
  refine WX.next (?_)
  refine WC.seq ?_
  refine WC.draw (Keep nof w2.drew) [2] (.one 0 0 (.one 1 0 (.one 2 2 (.one 3 0 (.one 4 0 .nil))))) mixed (by kernel_rfl) (by kernel_rfl) (by kernel_rfl) (HQ.then_ HQ.body) ?_
  obtain ⟨w4, hw4⟩ : ∃ v, v = w2.drew := ⟨_, rfl⟩
  have D4 : Keep nof w2 w4 := by rw [hw4]; exact Keep.drew _ _
  have M4 := M2.step D4
  rw [← hw4]; clear hw4
  refine WP.p rfl rfl rfl rfl (fun _ => Ex.slA Tryd.underlying25 sz5 rfl) ?_
  refine WP.p rfl rfl rfl rfl (fun _ => Ex.slA Tryd.underlying25 sz5 rfl) ?_
  refine WP.a rfl rfl rfl rfl (Ac.call rfl Tryd.func47 nm47 rfl (by
    have h := cmp_ok w4 ga 0 gb 0 a b 32 32 (M4.rdw (i := 1) rfl) (M4.rdw (i := 0) rfl)
    rw [ha0, hb0] at h
    exact h)) ?_; rintro v7 w7 ⟨rfl, K7⟩; refine .inl ⟨rfl, Keep nof w7, ?_⟩
  have M7 := M4.step K7
  refine WP.p rfl rfl rfl rfl (fun _ => Ex.lss rfl rfl) ?_
  refine WP.p rfl rfl rfl rfl (fun _ => Ex.asg rfl) ?_
  refine WP.nil ?_
  refine WX.next (?_)
  refine WC.ret ?_
  refine WX.ret1 rfl rfl ?_
  exact ⟨rfl, M7.keep⟩

end Go.Proofs.YtfncnpnjhcaphaaDoor
