/- Walks, written by gen.py off the translation's own print: each says what the Go function comes to. -/
import Derived.Test.YtpngjgcbdaogmaaWb
set_option linter.unusedVariables false
set_option linter.unusedSimpArgs false
namespace Go.Proofs.Ytpngjgcbdaogmaa
open Go.Sx Go.RowKit
attribute [local irreducible] Ac Ex WL WC WX WP Gives

/-- Few parts, and little ones. -/
def fewP (ps : List SV) : Prop := (∀ p ∈ ps, p.l.length ≤ 100) ∧ ps.length ≤ 6
instance (ps : List SV) : Decidable (fewP ps) := by unfold fewP; infer_instance
theorem fewP_small {ps : List SV} (h : fewP ps) : ∀ p ∈ ps, p.l.length < 4294967296 := fun p hp => by have := h.1 p hp; omega
theorem fewP_txt (tag : Nat) {ps : List SV} (h : fewP ps) : (txt tag (ps.map (·.l))).length ≤ 35184372088832 := by
  have h4 : ∀ l : List SV, (∀ p ∈ l, p.l.length ≤ 100) → ((l.map (·.l)).map fun p => p.length + 4).sum ≤ 104 * l.length := by
    intro l
    induction l with
    | nil => simp
    | cons a r ih =>
      intro hl
      have h1 := ih fun p hp => hl p (by simp [hp])
      have h2 := hl a (by simp)
      simp only [List.map_cons, List.sum_cons, List.length_cons]
      omega
  rw [txt_length]
  have h1 := h4 ps h.1
  have h2 := h.2
  omega

/- sponsion/sponsionlaw06.few -/
theorem few_ok (w : World) (A : Option Addr) (c : Nat) (ps : List SV) (hr : RdP w A ps) (hb : ps.length ≤ 9223372036854775807) :
    Gives Try.prog 14 #[.slice A ps.length c] w fun u w1 => u = .bool (decide (fewP ps)) ∧ Keep nof w w1 := by
  have K0 := Keep.refl nof w
  refine Gives.enter (n := 18) Try.func14 rfl Try.ntmps14 rfl (env := [(0, .slice A ps.length c)]) rfl ?_
  refine WC.seq ?_
  refine WC.region ?_
  refine WL.ex rfl rfl rfl (Ex.asg rfl) ?_
  refine WL.nil ?_
  refine WX.next (?_)
  refine WC.seq ?_
  refine WC.seq ?_
  refine WC.region ?_
  refine WL.ex rfl rfl rfl (Ex.mv rfl) ?_
  refine WL.ex rfl rfl rfl (Ex.len Try.underlying22 rfl) ?_
  refine WL.ex rfl rfl rfl (Ex.mv rfl) ?_
  refine WL.nil ?_
  refine WX.next (?_)
  refine WC.block ?_
  refine WC.loop (σ := Nat) (fun i => [(0, .slice A ps.length c), (5, .slice A ps.length c), (6, .int .i64 (ps.length : Int)), (7, .int .i64 (i : Int))]) (fun i wr => i ≤ ps.length ∧ wr = w ∧ ∀ p ∈ ps.take i, p.l.length ≤ 100) (fun i => ps.length - i) (0) ?_ (.cons rfl (.cons rfl (.cons rfl (.cons rfl (.nil))))) ?_
  · exact ⟨by omega, rfl, by simp⟩
  rintro i w5 ⟨hi, rfl, hall⟩
  refine WC.seq ?_
  refine WC.region ?_
  refine WL.ex rfl rfl rfl (Ex.lss rfl rfl) ?_
  refine WL.nil ?_
  refine WX.next (?_)
  refine WC.seq ?_
  refine WC.cond_dec rfl (fun hc8 => ?_) (fun hc8 => ?_)
  · obtain ⟨p, hpi⟩ : ∃ p, ps[i]? = some p := ⟨_, List.getElem?_eq_getElem (by omega)⟩
    have hpm : p ∈ ps := List.mem_of_getElem? hpi
    obtain ⟨b, o, hA, _⟩ := hr.1.plain (by simp; omega)
    subst hA
    refine WC.skip ?_
    refine WX.next (?_)
    refine WC.seq ?_
    refine WC.block ?_
    refine WC.seq ?_
    refine WC.region ?_
    refine WL.ex rfl rfl rfl (Ex.ia Try.underlying22 sz25 rfl rfl ⟨by omega, by omega⟩) ?_
    refine WL.ex rfl rfl rfl (Ex.load ty25 rfl (Rd.at1 (u := svV p) hr.1 (j := (i : Int).toNat * 1) (by simp [hpi]))) ?_
    refine WL.ex rfl rfl rfl (Ex.asg rfl) ?_
    refine WL.nil ?_
    refine WX.next (?_)
    refine WC.seq ?_
    refine WC.region ?_
    refine WL.ex rfl rfl rfl (Ex.mv rfl) ?_
    refine WL.ex rfl rfl rfl (Ex.len Try.underlying25 rfl) ?_
    refine WL.ex rfl rfl rfl (Ex.gtr rfl rfl) ?_
    refine WL.nil ?_
    refine WX.next (?_)
    refine WC.cond_dec rfl (fun hc13 => ?_) (fun hc13 => ?_)
    · skip
      refine WC.seq ?_
      refine WC.region ?_
      refine WL.ex rfl rfl rfl (Ex.asg rfl) ?_
      refine WL.nil ?_
      refine WX.next (?_)
      refine WC.ret ?_
      refine WX.ret_block (WX.ret_then (WX.ret_then (WX.ret_block (WX.ret_then (?_)))))
      refine WX.ret1 rfl rfl ?_
      first | exact ⟨congrArg Value.bool (decide_eq_false fun h => by have := h.1 p hpm; omega).symm, Keep.refl _ _⟩ | exact ⟨congrArg Value.bool (decide_eq_decide.2 ⟨fun h => ⟨hall, by omega⟩, fun h => by have := h.2; omega⟩), Keep.refl _ _⟩
    · skip
      refine WC.skip ?_
      refine WX.normal_block (WX.next (?_))
      refine WC.region ?_
      refine WL.ex rfl rfl rfl (Ex.add rfl rfl (i64w _ (by omega) (by omega))) ?_
      refine WL.ex rfl rfl rfl (Ex.mv rfl) ?_
      refine WL.nil ?_
      refine WX.again (i + 1) ?_ ?_ (.cons rfl (.cons rfl (.cons rfl (.cons rfl (.nil)))))
      · (try dsimp only); omega
      · refine ⟨by omega, rfl, ?_⟩
        rw [take_snoc hpi]
        intro q hq
        rcases List.mem_append.1 hq with hq | hq
        · exact hall q hq
        · obtain rfl : q = p := by simpa using hq
          omega
  · obtain rfl : i = ps.length := by omega
    rw [List.take_of_length_le (Nat.le_refl _)] at hall
    refine WC.exit ?_
    refine WX.exit_then (WX.exit_then (WX.exit_block (WX.next (?_))))
    refine WC.seq ?_
    refine WC.region ?_
    refine WL.ex rfl rfl rfl (Ex.mv rfl) ?_
    refine WL.ex rfl rfl rfl (Ex.len Try.underlying22 rfl) ?_
    refine WL.ex rfl rfl rfl (Ex.leq rfl rfl) ?_
    refine WL.ex rfl rfl rfl (Ex.asg rfl) ?_
    refine WL.nil ?_
    refine WX.next (?_)
    refine WC.ret ?_
    refine WX.ret1 rfl rfl ?_
    first | exact ⟨congrArg Value.bool (decide_eq_false fun h => by have := h.1 p hpm; omega).symm, Keep.refl _ _⟩ | exact ⟨congrArg Value.bool (decide_eq_decide.2 ⟨fun h => ⟨hall, by omega⟩, fun h => by have := h.2; omega⟩), Keep.refl _ _⟩

/- sponsion/sponsionlaw06.lives -/
theorem lives06_ok (w : World) :
    Gives Try.prog 13 #[] w fun u w1 => u = .bool true ∧ Keep nof w w1 := by
  have M0 := Mem.start w nof
  refine Gives.enter (n := 7) Try.func13 rfl Try.ntmps13 rfl (env := []) rfl ?_
  refine WC.seq ?_
  refine WC.region ?_
  refine WL.ex rfl rfl rfl (Ex.asg rfl) ?_
  refine WL.nil ?_
  refine WX.next (?_)
  refine WC.seq ?_
  refine WC.region ?_
  refine WL.ac rfl rfl rfl (Ac.bs M0 (parts := [(0, .const (.int .u8 97)), (1, .const (.int .u8 98))]) (l := bytesV [97, 98]) rfl rfl ⟨Try.underlying25, 1, #[.int .u8 0], sz5, by decide, fun _ => by kernel_rfl, by kernel_rfl⟩) ?_; rintro v2 w2 ⟨g1, rfl, hg2, K2, M2⟩
  refine WL.ac rfl rfl rfl (Ac.cvm M2 Try.underlying25 Try.underlying5 rfl (i := 0) rfl) ?_; rintro v3 w3 ⟨rfl, K3, M3⟩
  try dsimp only [List.set] at M3
  refine WL.ac rfl rfl rfl (Ac.bs M3 (parts := [(0, .tmp 2), (1, .const (.slice none 0 0))]) (l := [svV ⟨some ⟨g1, 0, none⟩, 2, [97, 98]⟩, svV ⟨none, 0, []⟩]) rfl rfl ⟨Try.underlying22, 1, #[.slice none 0 0], sz25, by decide, fun _ => by kernel_rfl, by kernel_rfl⟩) ?_; rintro v4 w4 ⟨g2, rfl, hg4, K4, M4⟩
  refine WL.ac rfl rfl rfl (Ac.call rfl Try.func15 nm15 rfl (text_ok w4 1 _ 2 [⟨some ⟨g1, 0, none⟩, 2, [97, 98]⟩, ⟨none, 0, []⟩] (by decide) ⟨M4.rdw (i := 0) rfl, by
        intro p hp
        simp only [List.mem_cons, List.not_mem_nil, or_false] at hp
        rcases hp with rfl | rfl
        · exact M4.rdw (i := 1) rfl
        · exact Rd.nil _ _⟩ (by simp) (by show (txt 1 [[97, 98], []]).length ≤ _; decide))) ?_; rintro v5 w5 N5
  have M5 := M4.new N5
  obtain ⟨A5, c5, rfl⟩ := own_slice (M5.get (i := 0) rfl)
  refine WL.ex rfl rfl rfl (Ex.cvBS Try.underlying25 Try.underlying5 Try.underlying9 rfl (M5.rdr (i := 0) rfl)) ?_
  refine WL.ex rfl rfl rfl (Ex.eqS rfl rfl) ?_
  refine WL.ex rfl rfl rfl (Ex.asg rfl) ?_
  refine WL.nil ?_
  refine WX.next (?_)
  refine WC.ret ?_
  refine WX.ret1 rfl rfl ?_
  exact ⟨congrArg Value.bool (decide_eq_true (show txt 1 [[97, 98], []] = [1, 0, 0, 0, 2, 97, 98, 0, 0, 0, 0] by decide)), M5.keep⟩

end Go.Proofs.Ytpngjgcbdaogmaa
