/- Walks, written by gen.py off the translation's own print: each says what the Go function comes to. -/
import Derived.Test.YtfncnpnjhcaphaaDoorKb
set_option linter.unusedVariables false
set_option linter.unusedSimpArgs false
namespace Go.Proofs.YtfncnpnjhcaphaaDoor
open Go.Sx Go.RowKit
attribute [local irreducible] Ac Ex WL WC WX WP Gives sha

/- sponsion/sponsionlaw05.DigestLess -/
theorem digestLess_walk (w : World) (a b c : List UInt8) (ha : H32 a) (hb : H32 b) (hc : H32 c) (hT : Tabs w) :
    Gives Tryd.prog 5 #[.agg (bytesV a).toArray, .agg (bytesV b).toArray, .agg (bytesV c).toArray] w fun u w1 => u = .bool true ∧ Keep nof w w1 := by
  have M0 := Mem.start w nof
  have ha0 : a.length = 32 := ha
  have hb0 : b.length = 32 := hb
  have hc0 : c.length = 32 := hc
  have hsw := cmpB_swap a b
  have hze := cmpB_zero a b
  have htr := cmpB_trans a b c
  have hse := cmpB_self a
  have hgt : ¬ Lib.compareBytes a b < 0 → a ≠ b → Lib.compareBytes b a < 0 := fun h1 h2 => by have h3 : Lib.compareBytes a b ≠ 0 := fun h => h2 (hze h); omega
  refine Gives.enter (n := 72) Tryd.func5 rfl Tryd.ntmps5 rfl (env := [(0, .agg (bytesV a).toArray), (1, .agg (bytesV b).toArray), (2, .agg (bytesV c).toArray)]) rfl ?_
  refine WC.seq ?_
  refine WC.region ?_
  refine WL.ac rfl rfl rfl (Ac.box M0 rfl rfl) ?_; rintro v1 w1 ⟨ga, rfl, hg1, K1, M1⟩
  refine WL.ac rfl rfl rfl (Ac.box M1 rfl rfl) ?_; rintro v2 w2 ⟨gb, rfl, hg2, K2, M2⟩
  refine WL.ac rfl rfl rfl (Ac.box M2 rfl rfl) ?_; rintro v3 w3 ⟨gc, rfl, hg3, K3, M3⟩
  refine WL.ex rfl rfl rfl (Ex.asg rfl) ?_
  refine WL.nil ?_
  refine WX.next (?_)
  refine WC.seq ?_
  refine WC.seq ?_
  refine WC.region ?_
  refine WL.ac rfl rfl rfl (Ac.call rfl Tryd.func12 nm12 rfl (lives05_ok w3 (hT.keep M3.keep))) ?_; rintro v5 w5 ⟨rfl, K5⟩
  have M5 := M3.step K5
  refine WL.ex rfl rfl rfl (Ex.not rfl) ?_
  refine WL.nil ?_
  refine WX.next (?_)
  refine WC.no rfl ?_
  refine WC.skip ?_
  refine WX.next (?_)
  refine WC.seq ?_
  refine WC.region ?_
  refine WL.ex rfl rfl rfl (Ex.asg rfl) ?_
  refine WL.nil ?_
  refine WX.next (?_)
  refine WC.seq ?_
  refine WC.seq ?_
  refine WC.region ?_
  refine WL.ex rfl rfl rfl (Ex.mv rfl) ?_
  refine WL.nil ?_
  refine WX.next (?_)
  refine WC.block ?_
  refine WC.loop (σ := Nat) (fun i => [(3, .pointer (some ⟨ga, 0, none⟩)), (4, .pointer (some ⟨gb, 0, none⟩)), (5, .pointer (some ⟨gc, 0, none⟩)), (7, .bool false), (13, .int .i64 (i : Int))]) (fun i wr => i ≤ 32 ∧ a.take i = b.take i ∧ Mem w wr nof [blk gc (bytesV c) 25, blk gb (bytesV b) 25, blk ga (bytesV a) 25]) (fun i => 32 - i) (0) ?_ (.cons rfl (.cons rfl (.cons rfl (.cons rfl (.cons rfl (.nil)))))) ?_
  · exact ⟨by omega, by simp, M5⟩
  rintro i w9 ⟨hi, htk, M9⟩
  refine WC.seq ?_
  refine WC.region ?_
  refine WL.ex rfl rfl rfl (Ex.lss rfl rfl) ?_
  refine WL.nil ?_
  refine WX.next (?_)
  refine WC.seq ?_
  refine WC.cond_dec rfl (fun hc14 => ?_) (fun hc14 => ?_)
  · obtain ⟨x, hax⟩ : ∃ x, a[i]? = some x := ⟨_, List.getElem?_eq_getElem (by omega)⟩
    obtain ⟨y, hby⟩ : ∃ x, b[i]? = some x := ⟨_, List.getElem?_eq_getElem (by omega)⟩
    refine WC.skip ?_
    refine WX.next (?_)
    refine WC.seq ?_
    refine WC.block ?_
    refine WC.seq ?_
    refine WC.region ?_
    refine WL.ex rfl rfl rfl (Ex.mv rfl) ?_
    refine WL.ex rfl rfl rfl (Ex.asg rfl) ?_
    refine WL.nil ?_
    refine WX.next (?_)
    refine WC.seq ?_
    refine WC.draw (Keep nof w9.drew) [] (.one 0 0 (.one 1 0 (.one 3 0 (.one 4 0 (.one 2 1 (.one 5 1 (.one 6 0 .nil))))))) mixed (by kernel_rfl) (by kernel_rfl) (by kernel_rfl) (HQ.then_ (HQ.block (HQ.then_ (HQ.then_ (HQ.block (HQ.then_ HQ.body)))))) ?_
    obtain ⟨w13, hw13⟩ : ∃ v, v = w9.drew := ⟨_, rfl⟩
    have D13 : Keep nof w9 w13 := by rw [hw13]; exact Keep.drew _ _
    have M13 := M9.step D13
    rw [← hw13]; clear hw13
    refine WP.p rfl rfl rfl rfl (fun _ => Ex.mv rfl) ?_
    refine WP.p rfl rfl rfl rfl (fun _ => Ex.iaA Tryd.underlying25 sz5 rfl rfl ⟨by omega, by omega⟩) ?_
    refine WP.p rfl rfl rfl rfl (fun _ => Ex.mv rfl) ?_
    refine WP.p rfl rfl rfl rfl (fun _ => Ex.iaA Tryd.underlying25 sz5 rfl rfl ⟨by omega, by omega⟩) ?_
    refine WP.q (Keep.refl _ _) rfl rfl rfl rfl (fun w' hS => Ex.load ty5 rfl (hS.cell (M13.cell (i := 2) (v := byteV x) rfl (by simp [bytesV_get hax])) (fun f => f))) ?_
    refine WP.q (Keep.refl _ _) rfl rfl rfl rfl (fun w' hS => Ex.load ty5 rfl (hS.cell (M13.cell (i := 1) (v := byteV y) rfl (by simp [bytesV_get hby])) (fun f => f))) ?_
    refine WP.p rfl rfl rfl rfl (fun _ => Ex.neI rfl rfl) ?_
    refine WP.nil ?_
    refine WX.next (?_)
    refine WC.cond rfl (fun hq => ?_) (fun hq => ?_)
    · have hxy : x ≠ y := fun h => by subst h; simp at hq
      have hxl := cmpB_at i htk hax hby hxy
      have hne : a ≠ b := fun h => by rw [h, hby] at hax; exact hxy (Option.some.inj hax).symm
      refine WC.seq ?_
      refine WC.draw (Keep nof w13.drew) [] (.one 0 0 (.one 1 0 (.one 3 0 (.one 4 0 (.one 2 1 (.one 5 1 (.one 6 0 (.one 7 0 .nil)))))))) mixed (by kernel_rfl) (by kernel_rfl) (by kernel_rfl) (HQ.then_ (HQ.block (HQ.then_ (HQ.then_ (HQ.block (HQ.then_ HQ.body)))))) ?_
      obtain ⟨w21, hw21⟩ : ∃ v, v = w13.drew := ⟨_, rfl⟩
      have D21 : Keep nof w13 w21 := by rw [hw21]; exact Keep.drew _ _
      have M21 := M13.step D21
      rw [← hw21]; clear hw21
      refine WP.p rfl rfl rfl rfl (fun _ => Ex.mv rfl) ?_
      refine WP.p rfl rfl rfl rfl (fun _ => Ex.iaA Tryd.underlying25 sz5 rfl rfl ⟨by omega, by omega⟩) ?_
      refine WP.p rfl rfl rfl rfl (fun _ => Ex.mv rfl) ?_
      refine WP.p rfl rfl rfl rfl (fun _ => Ex.iaA Tryd.underlying25 sz5 rfl rfl ⟨by omega, by omega⟩) ?_
      refine WP.q (Keep.refl _ _) rfl rfl rfl rfl (fun w' hS => Ex.load ty5 rfl (hS.cell (M21.cell (i := 2) (v := byteV x) rfl (by simp [bytesV_get hax])) (fun f => f))) ?_
      refine WP.q (Keep.refl _ _) rfl rfl rfl rfl (fun w' hS => Ex.load ty5 rfl (hS.cell (M21.cell (i := 1) (v := byteV y) rfl (by simp [bytesV_get hby])) (fun f => f))) ?_
      refine WP.p rfl rfl rfl rfl (fun _ => Ex.lss rfl rfl) ?_
      refine WP.p rfl rfl rfl rfl (fun _ => Ex.asg rfl) ?_
      refine WP.nil ?_
      refine WX.next (?_)
      refine WC.exit ?_
      refine WX.exit_other rfl (WX.exit_then (WX.exit_then (WX.exit_block (WX.next (?_)))))
      refine WC.seq ?_
      refine WC.draw (Keep nof w21.drew) [] (.one 0 1 (.one 1 1 (.one 3 1 (.one 4 1 (.one 2 2 (.one 5 2 (.one 6 0 (.one 7 0 .nil)))))))) mixed (by kernel_rfl) (by kernel_rfl) (by kernel_rfl) (HQ.then_ HQ.body) ?_
      obtain ⟨w30, hw30⟩ : ∃ v, v = w21.drew := ⟨_, rfl⟩
      have D30 : Keep nof w21 w30 := by rw [hw30]; exact Keep.drew _ _
      have M30 := M21.step D30
      rw [← hw30]; clear hw30
      refine WP.q (Keep.refl _ _) rfl rfl rfl rfl (fun w' hS => Ex.loadA ty25 rfl (h32_len (by first | assumption | exact h32_0)) ((M30.rdw (i := 2) rfl).keep0 hS)) ?_
      refine WP.q (Keep.refl _ _) rfl rfl rfl rfl (fun w' hS => Ex.loadA ty25 rfl (h32_len (by first | assumption | exact h32_0)) ((M30.rdw (i := 1) rfl).keep0 hS)) ?_
      refine WP.q (Keep.refl _ _) rfl rfl rfl rfl (fun w' hS => Ex.loadA ty25 rfl (h32_len (by first | assumption | exact h32_0)) ((M30.rdw (i := 1) rfl).keep0 hS)) ?_
      refine WP.q (Keep.refl _ _) rfl rfl rfl rfl (fun w' hS => Ex.loadA ty25 rfl (h32_len (by first | assumption | exact h32_0)) ((M30.rdw (i := 2) rfl).keep0 hS)) ?_
      refine WP.as rfl rfl rfl rfl (Ac.call rfl Tryd.func18 nm18 rfl (less_ok w30 a b ha hb)) ?_; rintro v35 w35 ⟨rfl, K35⟩
      refine ⟨Keep nof w35, fun u h => K35.trans h, Keep.refl _ _, ?_⟩
      have M35 := M30.step K35
      refine WP.as rfl rfl rfl rfl (Ac.call rfl Tryd.func18 nm18 rfl (less_ok w35 b a hb ha)) ?_; rintro v36 w36 ⟨rfl, K36⟩
      refine ⟨Keep nof w36, fun u h => K36.trans h, Keep.refl _ _, ?_⟩
      have M36 := M35.step K36
      refine WP.p rfl rfl rfl rfl (fun _ => Ex.asg rfl) ?_
      refine WP.p rfl rfl rfl rfl (fun _ => Ex.asg rfl) ?_
      refine WP.nil ?_
      refine WX.next (?_)
      refine WC.seq ?_
      refine WC.region ?_
      refine WL.ex rfl rfl rfl (Ex.mv rfl) ?_
      by_cases hab : Lib.compareBytes a b < 0
      · have hba : ¬ Lib.compareBytes b a < 0 := by omega
        rw [decide_eq_true hab, decide_eq_false hba, decide_eq_true (show (x.toNat : Int) < y.toNat by have := hxl.1 hab; omega)]
        refine WL.ex rfl rfl rfl (Ex.mv rfl) ?_
        refine WL.ex rfl rfl rfl (Ex.eqB Tryd.underlying4 rfl rfl) ?_
        refine WL.ex rfl rfl rfl (Ex.mv rfl) ?_
        refine WL.yes rfl rfl rfl rfl ?_
        refine WL.ex rfl rfl rfl (Ex.mv rfl) ?_
        refine WL.yes rfl rfl rfl rfl ?_
        refine WL.ex rfl rfl rfl (Ex.mv rfl) ?_
        
        refine WL.yes rfl rfl rfl rfl ?_
        refine WL.ex rfl rfl rfl (Ex.mv rfl) ?_
        refine WL.yes rfl rfl rfl rfl ?_
        refine WL.ex rfl rfl rfl (Ex.pickT rfl rfl) ?_
        refine WL.yes rfl rfl rfl rfl ?_
        refine WL.ex rfl rfl rfl (Ex.not rfl) ?_
        refine WL.ex rfl rfl rfl (Ex.pickT rfl rfl) ?_
        refine WL.ex rfl rfl rfl (Ex.mv rfl) ?_
        
        refine WL.yes rfl rfl rfl rfl ?_
        refine WL.ex rfl rfl rfl (Ex.mv rfl) ?_
        refine WL.yes rfl rfl rfl rfl ?_
        refine WL.ex rfl rfl rfl (Ex.mv rfl) ?_
        
        refine WL.no rfl rfl rfl rfl rfl rfl ?_
        refine WL.yes rfl rfl rfl rfl ?_
        refine WL.ex rfl rfl rfl (Ex.pickT rfl rfl) ?_
        refine WL.yes rfl rfl rfl rfl ?_
        refine WL.ex rfl rfl rfl (Ex.loadA ty25 rfl (h32_len (by first | assumption | exact h32_0)) (M36.rdw (i := 2) rfl)) ?_
        refine WL.yes rfl rfl rfl rfl ?_
        refine WL.ex rfl rfl rfl (Ex.loadA ty25 rfl (h32_len (by first | assumption | exact h32_0)) (M36.rdw (i := 1) rfl)) ?_
        refine WL.yes rfl rfl rfl rfl ?_
        refine WL.ex rfl rfl rfl (Ex.neA rfl rfl (eqHash w36 ha hb)) ?_
        first | rw [decide_eq_false hne] | rw [decide_eq_true hab0]
        refine WL.yes rfl rfl rfl rfl ?_
        refine WL.ex rfl rfl rfl (Ex.eqB Tryd.underlying4 rfl rfl) ?_
        refine WL.ex rfl rfl rfl (Ex.pickT rfl rfl) ?_
        refine WL.ex rfl rfl rfl (Ex.mv rfl) ?_
        refine WL.yes rfl rfl rfl rfl ?_
        refine WL.ex rfl rfl rfl (Ex.mv rfl) ?_
        refine WL.yes rfl rfl rfl rfl ?_
        refine WL.ex rfl rfl rfl (Ex.not rfl) ?_
        refine WL.yes rfl rfl rfl rfl ?_
        refine WL.ex rfl rfl rfl (Ex.mv rfl) ?_
        
        refine WL.yes rfl rfl rfl rfl ?_
        refine WL.ex rfl rfl rfl (Ex.loadA ty25 rfl (h32_len (by first | assumption | exact h32_0)) (M36.rdw (i := 1) rfl)) ?_
        refine WL.yes rfl rfl rfl rfl ?_
        refine WL.ex rfl rfl rfl (Ex.loadA ty25 rfl (h32_len (by first | assumption | exact h32_0)) (M36.rdw (i := 0) rfl)) ?_
        refine WL.yes rfl rfl rfl rfl ?_
        refine WL.ac rfl rfl rfl (Ac.call rfl Tryd.func18 nm18 rfl (less_ok w36 b c hb hc)) ?_; rintro v64 w64 ⟨rfl, K64⟩
        have M64 := M36.step K64
        by_cases hbc : Lib.compareBytes b c < 0
        · rw [decide_eq_true hbc]
          refine WL.yes rfl rfl rfl rfl ?_
          refine WL.ex rfl rfl rfl (Ex.not rfl) ?_
          refine WL.yes rfl rfl rfl rfl ?_
          refine WL.ex rfl rfl rfl (Ex.pickF rfl rfl) ?_
          refine WL.yes rfl rfl rfl rfl ?_
          refine WL.ex rfl rfl rfl (Ex.mv rfl) ?_
          refine WL.yes rfl rfl rfl rfl ?_
          refine WL.ex rfl rfl rfl (Ex.loadA ty25 rfl (h32_len (by first | assumption | exact h32_0)) (M64.rdw (i := 2) rfl)) ?_
          refine WL.yes rfl rfl rfl rfl ?_
          refine WL.ex rfl rfl rfl (Ex.loadA ty25 rfl (h32_len (by first | assumption | exact h32_0)) (M64.rdw (i := 0) rfl)) ?_
          refine WL.yes rfl rfl rfl rfl ?_
          refine WL.ac rfl rfl rfl (Ac.call rfl Tryd.func18 nm18 rfl (less_ok w64 a c ha hc)) ?_; rintro v70 w70 ⟨rfl, K70⟩
          have M70 := M64.step K70
          rw [decide_eq_true (htr hab hbc)]
          refine WL.yes rfl rfl rfl rfl ?_
          refine WL.ex rfl rfl rfl (Ex.pickF rfl rfl) ?_
          refine WL.ex rfl rfl rfl (Ex.pickT rfl rfl) ?_
          refine WL.ex rfl rfl rfl (Ex.asg rfl) ?_
          refine WL.nil ?_
          refine WX.next (?_)
          refine WC.ret ?_
          refine WX.ret1 rfl rfl ?_
          exact ⟨rfl, M70.keep⟩
        · rw [decide_eq_false hbc]
          refine WL.yes rfl rfl rfl rfl ?_
          refine WL.ex rfl rfl rfl (Ex.not rfl) ?_
          refine WL.yes rfl rfl rfl rfl ?_
          refine WL.ex rfl rfl rfl (Ex.pickF rfl rfl) ?_
          refine WL.yes rfl rfl rfl rfl ?_
          refine WL.ex rfl rfl rfl (Ex.mv rfl) ?_
          refine WL.no rfl rfl rfl rfl rfl rfl ?_
          refine WL.no rfl rfl rfl rfl rfl rfl ?_
          refine WL.no rfl rfl rfl rfl rfl rfl ?_
          refine WL.yes rfl rfl rfl rfl ?_
          refine WL.ex rfl rfl rfl (Ex.pickT rfl rfl) ?_
          refine WL.ex rfl rfl rfl (Ex.pickT rfl rfl) ?_
          refine WL.ex rfl rfl rfl (Ex.asg rfl) ?_
          refine WL.nil ?_
          refine WX.next (?_)
          refine WC.ret ?_
          refine WX.ret1 rfl rfl ?_
          exact ⟨rfl, M64.keep⟩
      · have hba : Lib.compareBytes b a < 0 := hgt hab hne
        rw [decide_eq_false hab, decide_eq_true hba, decide_eq_false (show ¬ (x.toNat : Int) < y.toNat from fun h => hab (hxl.2 (by omega)))]
        refine WL.ex rfl rfl rfl (Ex.mv rfl) ?_
        refine WL.ex rfl rfl rfl (Ex.eqB Tryd.underlying4 rfl rfl) ?_
        refine WL.ex rfl rfl rfl (Ex.mv rfl) ?_
        refine WL.yes rfl rfl rfl rfl ?_
        refine WL.ex rfl rfl rfl (Ex.mv rfl) ?_
        refine WL.yes rfl rfl rfl rfl ?_
        refine WL.ex rfl rfl rfl (Ex.mv rfl) ?_
        
        refine WL.no rfl rfl rfl rfl rfl rfl ?_
        refine WL.yes rfl rfl rfl rfl ?_
        refine WL.ex rfl rfl rfl (Ex.pickF rfl rfl) ?_
        refine WL.yes rfl rfl rfl rfl ?_
        refine WL.ex rfl rfl rfl (Ex.not rfl) ?_
        refine WL.ex rfl rfl rfl (Ex.pickT rfl rfl) ?_
        refine WL.ex rfl rfl rfl (Ex.mv rfl) ?_
        refine WL.yes rfl rfl rfl rfl ?_
        refine WL.ex rfl rfl rfl (Ex.mv rfl) ?_
        refine WL.yes rfl rfl rfl rfl ?_
        refine WL.ex rfl rfl rfl (Ex.mv rfl) ?_
        
        refine WL.yes rfl rfl rfl rfl ?_
        refine WL.ex rfl rfl rfl (Ex.mv rfl) ?_
        refine WL.yes rfl rfl rfl rfl ?_
        refine WL.ex rfl rfl rfl (Ex.pickF rfl rfl) ?_
        refine WL.yes rfl rfl rfl rfl ?_
        refine WL.ex rfl rfl rfl (Ex.loadA ty25 rfl (h32_len (by first | assumption | exact h32_0)) (M36.rdw (i := 2) rfl)) ?_
        refine WL.yes rfl rfl rfl rfl ?_
        refine WL.ex rfl rfl rfl (Ex.loadA ty25 rfl (h32_len (by first | assumption | exact h32_0)) (M36.rdw (i := 1) rfl)) ?_
        refine WL.yes rfl rfl rfl rfl ?_
        refine WL.ex rfl rfl rfl (Ex.neA rfl rfl (eqHash w36 ha hb)) ?_
        first | rw [decide_eq_false hne] | rw [decide_eq_true hab0]
        refine WL.yes rfl rfl rfl rfl ?_
        refine WL.ex rfl rfl rfl (Ex.eqB Tryd.underlying4 rfl rfl) ?_
        refine WL.ex rfl rfl rfl (Ex.pickT rfl rfl) ?_
        refine WL.ex rfl rfl rfl (Ex.mv rfl) ?_
        refine WL.yes rfl rfl rfl rfl ?_
        refine WL.ex rfl rfl rfl (Ex.mv rfl) ?_
        refine WL.yes rfl rfl rfl rfl ?_
        refine WL.ex rfl rfl rfl (Ex.not rfl) ?_
        refine WL.yes rfl rfl rfl rfl ?_
        refine WL.ex rfl rfl rfl (Ex.mv rfl) ?_
        
        refine WL.no rfl rfl rfl rfl rfl rfl ?_
        refine WL.no rfl rfl rfl rfl rfl rfl ?_
        refine WL.no rfl rfl rfl rfl rfl rfl ?_
        refine WL.no rfl rfl rfl rfl rfl rfl ?_
        refine WL.yes rfl rfl rfl rfl ?_
        refine WL.ex rfl rfl rfl (Ex.pickT rfl rfl) ?_
        refine WL.yes rfl rfl rfl rfl ?_
        refine WL.ex rfl rfl rfl (Ex.mv rfl) ?_
        refine WL.no rfl rfl rfl rfl rfl rfl ?_
        refine WL.no rfl rfl rfl rfl rfl rfl ?_
        refine WL.no rfl rfl rfl rfl rfl rfl ?_
        refine WL.yes rfl rfl rfl rfl ?_
        refine WL.ex rfl rfl rfl (Ex.pickT rfl rfl) ?_
        refine WL.ex rfl rfl rfl (Ex.pickT rfl rfl) ?_
        refine WL.ex rfl rfl rfl (Ex.asg rfl) ?_
        refine WL.nil ?_
        refine WX.next (?_)
        refine WC.ret ?_
        refine WX.ret1 rfl rfl ?_
        exact ⟨rfl, M36.keep⟩
    · have hxy : x = y := by have h9 : (x.toNat : Int) = y.toNat := (by simpa using hq); exact UInt8.toNat_inj.1 (by omega)
      refine WC.skip ?_
      refine WX.normal_block (WX.next (?_))
      refine WC.region ?_
      refine WL.ex rfl rfl rfl (Ex.add rfl rfl (i64w _ (by omega) (by omega))) ?_
      refine WL.ex rfl rfl rfl (Ex.mv rfl) ?_
      refine WL.nil ?_
      refine WX.again (i + 1) ?_ ?_ (.cons rfl (.cons rfl (.cons rfl (.cons rfl (.cons rfl (.nil))))))
      · (try dsimp only); omega
      · exact ⟨by omega, by rw [take_snoc hax, take_snoc hby, htk, hxy], M13⟩
  · obtain rfl : i = 32 := by omega
    have hab0 : a = b := by rw [List.take_of_length_le (by omega), List.take_of_length_le (by omega)] at htk; exact htk
    have hl0 : ¬ Lib.compareBytes a b < 0 := by rw [← hab0, hse]; decide
    refine WC.exit ?_
    refine WX.exit_then (WX.exit_then (WX.exit_block (WX.next (?_))))
    refine WC.seq ?_
    refine WC.draw (Keep nof w9.drew) [] (.one 0 1 (.one 1 1 (.one 3 1 (.one 4 1 (.one 2 2 (.one 5 2 (.one 6 0 (.one 7 0 .nil)))))))) mixed (by kernel_rfl) (by kernel_rfl) (by kernel_rfl) (HQ.then_ HQ.body) ?_
    obtain ⟨w109, hw109⟩ : ∃ v, v = w9.drew := ⟨_, rfl⟩
    have D109 : Keep nof w9 w109 := by rw [hw109]; exact Keep.drew _ _
    have M109 := M9.step D109
    rw [← hw109]; clear hw109
    refine WP.q (Keep.refl _ _) rfl rfl rfl rfl (fun w' hS => Ex.loadA ty25 rfl (h32_len (by first | assumption | exact h32_0)) ((M109.rdw (i := 2) rfl).keep0 hS)) ?_
    refine WP.q (Keep.refl _ _) rfl rfl rfl rfl (fun w' hS => Ex.loadA ty25 rfl (h32_len (by first | assumption | exact h32_0)) ((M109.rdw (i := 1) rfl).keep0 hS)) ?_
    refine WP.q (Keep.refl _ _) rfl rfl rfl rfl (fun w' hS => Ex.loadA ty25 rfl (h32_len (by first | assumption | exact h32_0)) ((M109.rdw (i := 1) rfl).keep0 hS)) ?_
    refine WP.q (Keep.refl _ _) rfl rfl rfl rfl (fun w' hS => Ex.loadA ty25 rfl (h32_len (by first | assumption | exact h32_0)) ((M109.rdw (i := 2) rfl).keep0 hS)) ?_
    refine WP.as rfl rfl rfl rfl (Ac.call rfl Tryd.func18 nm18 rfl (less_ok w109 a b ha hb)) ?_; rintro v114 w114 ⟨rfl, K114⟩
    refine ⟨Keep nof w114, fun u h => K114.trans h, Keep.refl _ _, ?_⟩
    have M114 := M109.step K114
    refine WP.as rfl rfl rfl rfl (Ac.call rfl Tryd.func18 nm18 rfl (less_ok w114 b a hb ha)) ?_; rintro v115 w115 ⟨rfl, K115⟩
    refine ⟨Keep nof w115, fun u h => K115.trans h, Keep.refl _ _, ?_⟩
    have M115 := M114.step K115
    refine WP.p rfl rfl rfl rfl (fun _ => Ex.asg rfl) ?_
    refine WP.p rfl rfl rfl rfl (fun _ => Ex.asg rfl) ?_
    refine WP.nil ?_
    refine WX.next (?_)
    refine WC.seq ?_
    refine WC.region ?_
    refine WL.ex rfl rfl rfl (Ex.mv rfl) ?_
    have hba : ¬ Lib.compareBytes b a < 0 := by rw [← hab0, hse]; decide
    rw [decide_eq_false hl0, decide_eq_false hba]
    refine WL.ex rfl rfl rfl (Ex.mv rfl) ?_
    refine WL.ex rfl rfl rfl (Ex.eqB Tryd.underlying4 rfl rfl) ?_
    refine WL.ex rfl rfl rfl (Ex.mv rfl) ?_
    refine WL.yes rfl rfl rfl rfl ?_
    refine WL.ex rfl rfl rfl (Ex.mv rfl) ?_
    refine WL.yes rfl rfl rfl rfl ?_
    refine WL.ex rfl rfl rfl (Ex.mv rfl) ?_
    
    refine WL.no rfl rfl rfl rfl rfl rfl ?_
    refine WL.yes rfl rfl rfl rfl ?_
    refine WL.ex rfl rfl rfl (Ex.pickF rfl rfl) ?_
    refine WL.yes rfl rfl rfl rfl ?_
    refine WL.ex rfl rfl rfl (Ex.not rfl) ?_
    refine WL.ex rfl rfl rfl (Ex.pickT rfl rfl) ?_
    refine WL.ex rfl rfl rfl (Ex.mv rfl) ?_
    refine WL.yes rfl rfl rfl rfl ?_
    refine WL.ex rfl rfl rfl (Ex.mv rfl) ?_
    refine WL.yes rfl rfl rfl rfl ?_
    refine WL.ex rfl rfl rfl (Ex.mv rfl) ?_
    
    refine WL.yes rfl rfl rfl rfl ?_
    refine WL.ex rfl rfl rfl (Ex.mv rfl) ?_
    refine WL.yes rfl rfl rfl rfl ?_
    refine WL.ex rfl rfl rfl (Ex.pickF rfl rfl) ?_
    refine WL.yes rfl rfl rfl rfl ?_
    refine WL.ex rfl rfl rfl (Ex.loadA ty25 rfl (h32_len (by first | assumption | exact h32_0)) (M115.rdw (i := 2) rfl)) ?_
    refine WL.yes rfl rfl rfl rfl ?_
    refine WL.ex rfl rfl rfl (Ex.loadA ty25 rfl (h32_len (by first | assumption | exact h32_0)) (M115.rdw (i := 1) rfl)) ?_
    refine WL.yes rfl rfl rfl rfl ?_
    refine WL.ex rfl rfl rfl (Ex.neA rfl rfl (eqHash w115 ha hb)) ?_
    first | rw [decide_eq_false hne] | rw [decide_eq_true hab0]
    refine WL.yes rfl rfl rfl rfl ?_
    refine WL.ex rfl rfl rfl (Ex.eqB Tryd.underlying4 rfl rfl) ?_
    refine WL.ex rfl rfl rfl (Ex.pickT rfl rfl) ?_
    refine WL.ex rfl rfl rfl (Ex.mv rfl) ?_
    refine WL.yes rfl rfl rfl rfl ?_
    refine WL.ex rfl rfl rfl (Ex.mv rfl) ?_
    refine WL.yes rfl rfl rfl rfl ?_
    refine WL.ex rfl rfl rfl (Ex.not rfl) ?_
    refine WL.yes rfl rfl rfl rfl ?_
    refine WL.ex rfl rfl rfl (Ex.mv rfl) ?_
    
    refine WL.no rfl rfl rfl rfl rfl rfl ?_
    refine WL.no rfl rfl rfl rfl rfl rfl ?_
    refine WL.no rfl rfl rfl rfl rfl rfl ?_
    refine WL.no rfl rfl rfl rfl rfl rfl ?_
    refine WL.yes rfl rfl rfl rfl ?_
    refine WL.ex rfl rfl rfl (Ex.pickT rfl rfl) ?_
    refine WL.yes rfl rfl rfl rfl ?_
    refine WL.ex rfl rfl rfl (Ex.mv rfl) ?_
    refine WL.no rfl rfl rfl rfl rfl rfl ?_
    refine WL.no rfl rfl rfl rfl rfl rfl ?_
    refine WL.no rfl rfl rfl rfl rfl rfl ?_
    refine WL.yes rfl rfl rfl rfl ?_
    refine WL.ex rfl rfl rfl (Ex.pickT rfl rfl) ?_
    refine WL.ex rfl rfl rfl (Ex.pickT rfl rfl) ?_
    refine WL.ex rfl rfl rfl (Ex.asg rfl) ?_
    refine WL.nil ?_
    refine WX.next (?_)
    refine WC.ret ?_
    refine WX.ret1 rfl rfl ?_
    exact ⟨rfl, M115.keep⟩
  -- UNUSED HINTS ['split:11.20', 'split:11.29']

end Go.Proofs.YtfncnpnjhcaphaaDoor
