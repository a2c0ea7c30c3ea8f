/- Walks, written by gen.py off the translation's own print: each says what the Go function comes to. -/
import Derived.Test.YtjbgdkdoniacgaaPd
set_option linter.unusedVariables false
set_option linter.unusedSimpArgs false
namespace Go.Proofs.Ytjbgdkdoniacgaa
open Go.Sx Go.RowKit
attribute [local irreducible] Ac Ex WL WC WX WP Gives

def ev18 : Ev := ⟨18, 0, List.replicate 32 0, 0, 0, 0, 0, [0, 0, 0, 0], [0, 0, 0, 0], 0⟩
theorem ev18_ok : EvOk ev18 := ⟨by decide, by decide, by simp [ev18], by decide, by decide, by decide, by decide, int4_0, int4_0, by decide⟩

/- sponsion/sponsionlaw09.lives -/
theorem lives09_ok (w : World) :
    Gives Try.prog 4 #[] w fun u w1 => u = .bool true ∧ Keep nof w w1 := by
  have M0 := Mem.start w nof
  have hall : ∀ t ∈ [ev0, ev18], EvOk t := by
    intro t ht
    simp only [List.mem_cons, List.not_mem_nil, or_false] at ht
    rcases ht with rfl | rfl
    · exact ev0_ok
    · exact ev18_ok
  have hmay : ∀ t ∈ [ev0, ev18], mayE t := by decide
  have hlen : ([ev0, ev18].flatMap evB).length = 226 := evsB_len hall
  refine Gives.enter (n := 23) Try.func4 rfl Try.ntmps4 rfl (env := []) rfl ?_
  refine WC.seq ?_
  refine WC.region ?_
  refine WL.ex rfl rfl rfl (Ex.asg rfl) ?_
  refine WL.nil ?_
  refine WX.next (?_)
  refine WC.seq ?_
  refine WC.region ?_
  refine WL.ex rfl rfl rfl (Ex.bld bd45 (parts := []) (l := evC ev0) rfl rfl rfl rfl) ?_
  refine WL.ex rfl rfl rfl (Ex.bldS bd45 (parts := [(0, .const (.int .u8 18))]) [[.int .u8 18]] (l := evC ev18) rfl rfl rfl ⟨0, 1, rfl, rfl, rfl, by simp, rfl⟩) ?_
  refine WL.ac rfl rfl rfl (Ac.bs M0 (parts := [(0, .tmp 4), (1, .tmp 5)]) (l := [ev0, ev18].flatMap evC) rfl rfl ⟨Try.underlying22, 47, (evC ev0).toArray, sz45, by decide, fun _ => by kernel_rfl, by kernel_rfl⟩) ?_; rintro v4 w4 ⟨gs, rfl, hg4, K4, M4⟩
  refine WL.ac rfl rfl rfl (Ac.call rfl Try.func10 nm10 rfl (eBytes_ok w4 _ _ [ev0, ev18] ⟨M4.rdw (i := 0) rfl, hall⟩ (by decide))) ?_; rintro v5 w5 hB
  rw [if_pos hmay] at hB
  obtain ⟨vb, rfl, N5⟩ := hB
  have M5 := M4.new N5
  rw [hlen] at M5
  obtain ⟨A5, c5, rfl⟩ := own_slice (M5.get (i := 0) rfl)
  obtain ⟨ga, rfl⟩ := own_some (M5.get (i := 0) rfl) (by decide)
  refine WL.ex rfl rfl rfl (Ex.mv rfl) ?_
  refine WL.ex rfl rfl rfl (Ex.ext rfl rfl) ?_
  refine WL.ex rfl rfl rfl (Ex.ext rfl rfl) ?_
  refine WL.ex rfl rfl rfl (Ex.asg rfl) ?_
  refine WL.ex rfl rfl rfl (Ex.asg rfl) ?_
  refine WL.nil ?_
  refine WX.next (?_)
  refine WC.seq ?_
  refine WC.region ?_
  refine WL.ex rfl rfl rfl (Ex.mv rfl) ?_
  refine WL.ex rfl rfl rfl (Ex.eqI rfl rfl) ?_
  
  refine WL.ex rfl rfl rfl (Ex.mv rfl) ?_
  refine WL.yes rfl rfl rfl rfl ?_
  refine WL.ex rfl rfl rfl (Ex.mv rfl) ?_
  refine WL.yes rfl rfl rfl rfl ?_
  refine WL.ex rfl rfl rfl (Ex.len Try.underlying25 rfl) ?_
  refine WL.yes rfl rfl rfl rfl ?_
  refine WL.ex rfl rfl rfl (Ex.eqI rfl rfl) ?_
  
  refine WL.ex rfl rfl rfl (Ex.pickT rfl rfl) ?_
  refine WL.ex rfl rfl rfl (Ex.mv rfl) ?_
  refine WL.yes rfl rfl rfl rfl ?_
  refine WL.ex rfl rfl rfl (Ex.mv rfl) ?_
  refine WL.yes rfl rfl rfl rfl ?_
  refine WL.ex rfl rfl rfl (Ex.ia Try.underlying25 sz5 rfl rfl ⟨by decide, by decide⟩) ?_
  refine WL.yes rfl rfl rfl rfl ?_
  refine WL.ex rfl rfl rfl (Ex.load ty5 rfl (Rd.at1 (u := .int .u8 18) (M5.rdr (i := 0) rfl) (j := (113 : Int).toNat * 1) rfl)) ?_
  refine WL.yes rfl rfl rfl rfl ?_
  refine WL.ex rfl rfl rfl (Ex.eqI rfl rfl) ?_
  
  refine WL.ex rfl rfl rfl (Ex.pickT rfl rfl) ?_
  refine WL.ex rfl rfl rfl (Ex.asg rfl) ?_
  refine WL.nil ?_
  refine WX.next (?_)
  refine WC.ret ?_
  refine WX.ret1 rfl rfl ?_
  exact ⟨rfl, M5.keep⟩

end Go.Proofs.Ytjbgdkdoniacgaa
