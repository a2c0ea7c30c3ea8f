/- Walks, written by gen.py off the translation's own print: each says what the Go function comes to. -/
import Derived.Test.YtnjbhhedaloghaaDoorPb
set_option linter.unusedVariables false
set_option linter.unusedSimpArgs false
namespace Go.Proofs.YtnjbhhedaloghaaDoor
open Go.Sx Go.RowKit
attribute [local irreducible] Ac Ex WL WC WX WP Gives

/- sponsion/call.Signs -/
theorem sg_ok (w : World) (z : Int) (hT : SgT w) :
    Gives Tryd.prog 7 #[.int .i64 z] w fun u w1 => u = str (sgF z) ∧ Keep nof w w1 := by
  have M0 := Mem.start w nof
  refine Gives.enter (n := 12) Tryd.func7 rfl Tryd.ntmps7 rfl (env := [(0, .int .i64 z)]) rfl ?_
  refine WC.seq ?_
  refine WC.region ?_
  refine WL.ex rfl rfl rfl (Ex.asg rfl) ?_
  refine WL.nil ?_
  refine WX.next (?_)
  refine WC.seq ?_
  refine WC.seq ?_
  refine WC.region ?_
  refine WL.ex rfl rfl rfl (Ex.mv rfl) ?_
  refine WL.ex rfl rfl rfl (Ex.lss rfl rfl) ?_
  refine WL.ex rfl rfl rfl (Ex.mv rfl) ?_
  by_cases h1 : z < 0
  · rw [decide_eq_true h1]
    have he := sgF_out (z := z) (by omega)
    refine WL.no rfl rfl rfl rfl rfl rfl ?_
    refine WL.no rfl rfl rfl rfl rfl rfl ?_
    refine WL.ex rfl rfl rfl (Ex.pickT rfl rfl) ?_
    refine WL.nil ?_
    refine WX.next (?_)
    refine WC.yes rfl ?_
    refine WC.seq ?_
    refine WC.region ?_
    refine WL.ex rfl rfl rfl (Ex.asg rfl) ?_
    refine WL.nil ?_
    refine WX.next (?_)
    refine WC.ret ?_
    refine WX.ret_then (?_)
    refine WX.ret1 rfl rfl ?_
    rw [he]
    exact ⟨rfl, M0.keep⟩
  · rw [decide_eq_false h1]
    refine WL.yes rfl rfl rfl rfl ?_
    refine WL.ex rfl rfl rfl (Ex.mv rfl) ?_
    refine WL.yes rfl rfl rfl rfl ?_
    refine WL.ex rfl rfl rfl (Ex.geq rfl rfl) ?_
    refine WL.ex rfl rfl rfl (Ex.pickF rfl rfl) ?_
    refine WL.nil ?_
    refine WX.next (?_)
    refine WC.cond_dec rfl (fun h8 => ?_) (fun h8 => ?_)
    · have he := sgF_out (z := z) (by omega)
      refine WC.seq ?_
      refine WC.region ?_
      refine WL.ex rfl rfl rfl (Ex.asg rfl) ?_
      refine WL.nil ?_
      refine WX.next (?_)
      refine WC.ret ?_
      refine WX.ret_then (?_)
      refine WX.ret1 rfl rfl ?_
      rw [he]
      exact ⟨rfl, M0.keep⟩
    · obtain ⟨k, rfl⟩ := Int.eq_ofNat_of_zero_le (show 0 ≤ z by omega)
      obtain ⟨s, hs⟩ : ∃ s, sgL[k]? = some s := ⟨_, List.getElem?_eq_getElem (by show k < 17; omega)⟩
      have he := sgF_at hs
      refine WC.skip ?_
      refine WX.next (?_)
      refine WC.seq ?_
      refine WC.region ?_
      refine WL.ex rfl rfl rfl (Ex.mv rfl) ?_
      refine WL.ex rfl rfl rfl (Ex.iaA Tryd.underlying44 sz9 rfl rfl ⟨by omega, by omega⟩) ?_
      refine WL.ex rfl rfl rfl (Ex.load ty9 rfl (by have hq := (hT.keep0 M0.keep).at1 (strsV_get hs); simpa using hq)) ?_
      refine WL.ex rfl rfl rfl (Ex.asg rfl) ?_
      refine WL.nil ?_
      refine WX.next (?_)
      refine WC.ret ?_
      refine WX.ret1 rfl rfl ?_
      rw [he]
      exact ⟨rfl, M0.keep⟩

/- sponsion/call.Name -/
theorem nm_ok (w : World) (z : Int) (hT : NmT w) :
    Gives Tryd.prog 6 #[.int .i64 z] w fun u w1 => u = str (nmF z) ∧ Keep nof w w1 := by
  have M0 := Mem.start w nof
  refine Gives.enter (n := 12) Tryd.func6 rfl Tryd.ntmps6 rfl (env := [(0, .int .i64 z)]) rfl ?_
  refine WC.seq ?_
  refine WC.region ?_
  refine WL.ex rfl rfl rfl (Ex.asg rfl) ?_
  refine WL.nil ?_
  refine WX.next (?_)
  refine WC.seq ?_
  refine WC.seq ?_
  refine WC.region ?_
  refine WL.ex rfl rfl rfl (Ex.mv rfl) ?_
  refine WL.ex rfl rfl rfl (Ex.lss rfl rfl) ?_
  refine WL.ex rfl rfl rfl (Ex.mv rfl) ?_
  by_cases h1 : z < 0
  · rw [decide_eq_true h1]
    have he := nmF_out (z := z) (by omega)
    refine WL.no rfl rfl rfl rfl rfl rfl ?_
    refine WL.no rfl rfl rfl rfl rfl rfl ?_
    refine WL.ex rfl rfl rfl (Ex.pickT rfl rfl) ?_
    refine WL.nil ?_
    refine WX.next (?_)
    refine WC.yes rfl ?_
    refine WC.seq ?_
    refine WC.region ?_
    refine WL.ex rfl rfl rfl (Ex.asg rfl) ?_
    refine WL.nil ?_
    refine WX.next (?_)
    refine WC.ret ?_
    refine WX.ret_then (?_)
    refine WX.ret1 rfl rfl ?_
    rw [he]
    exact ⟨rfl, M0.keep⟩
  · rw [decide_eq_false h1]
    refine WL.yes rfl rfl rfl rfl ?_
    refine WL.ex rfl rfl rfl (Ex.mv rfl) ?_
    refine WL.yes rfl rfl rfl rfl ?_
    refine WL.ex rfl rfl rfl (Ex.geq rfl rfl) ?_
    refine WL.ex rfl rfl rfl (Ex.pickF rfl rfl) ?_
    refine WL.nil ?_
    refine WX.next (?_)
    refine WC.cond_dec rfl (fun h8 => ?_) (fun h8 => ?_)
    · have he := nmF_out (z := z) (by omega)
      refine WC.seq ?_
      refine WC.region ?_
      refine WL.ex rfl rfl rfl (Ex.asg rfl) ?_
      refine WL.nil ?_
      refine WX.next (?_)
      refine WC.ret ?_
      refine WX.ret_then (?_)
      refine WX.ret1 rfl rfl ?_
      rw [he]
      exact ⟨rfl, M0.keep⟩
    · obtain ⟨k, rfl⟩ := Int.eq_ofNat_of_zero_le (show 0 ≤ z by omega)
      obtain ⟨s, hs⟩ : ∃ s, nmL[k]? = some s := ⟨_, List.getElem?_eq_getElem (by show k < 17; omega)⟩
      have he := nmF_at hs
      refine WC.skip ?_
      refine WX.next (?_)
      refine WC.seq ?_
      refine WC.region ?_
      refine WL.ex rfl rfl rfl (Ex.mv rfl) ?_
      refine WL.ex rfl rfl rfl (Ex.iaA Tryd.underlying44 sz9 rfl rfl ⟨by omega, by omega⟩) ?_
      refine WL.ex rfl rfl rfl (Ex.load ty9 rfl (by have hq := (hT.keep0 M0.keep).at1 (strsV_get hs); simpa using hq)) ?_
      refine WL.ex rfl rfl rfl (Ex.asg rfl) ?_
      refine WL.nil ?_
      refine WX.next (?_)
      refine WC.ret ?_
      refine WX.ret1 rfl rfl ?_
      rw [he]
      exact ⟨rfl, M0.keep⟩

/- slices.Index[[]string,string] -/
theorem idxS_ok (w : World) (A : Option Addr) (c : Nat) (l : List (List UInt8)) (x : List UInt8) (hr : Rd w A (strsV l)) (hb : l.length ≤ 1000000) :
    Gives Tryd.prog 10 #[.slice A l.length c, str x] w fun u w1 => u = .int .i64 (if fX x l < l.length then ((fX x l : Nat) : Int) else -1) ∧ Keep nof w w1 := by
  have M0 := Mem.start w nof
  refine Gives.enter (n := 19) Tryd.func10 rfl Tryd.ntmps10 rfl (env := [(0, .slice A l.length c), (1, str x)]) rfl ?_
  refine WC.seq ?_
  refine WC.region ?_
  refine WL.ex rfl rfl rfl (Ex.asg rfl) ?_
  refine WL.nil ?_
  refine WX.next (?_)
  refine WC.seq ?_
  refine WC.seq ?_
  refine WC.region ?_
  refine WL.ex rfl rfl rfl (Ex.mv rfl) ?_
  refine WL.ex rfl rfl rfl (Ex.len Tryd.underlying46 rfl) ?_
  refine WL.ex rfl rfl rfl (Ex.mv rfl) ?_
  refine WL.nil ?_
  refine WX.next (?_)
  refine WC.block ?_
  refine WC.loop (σ := Nat) (fun i => [(0, .slice A l.length c), (1, str x), (7, .int .i64 (l.length : Int)), (8, .int .i64 (i : Int))]) (fun i wr => i ≤ l.length ∧ (∀ y ∈ l.take i, x ≠ y) ∧ Mem w wr nof []) (fun i => l.length - i) (0) ?_ (.cons rfl (.cons rfl (.cons rfl (.cons rfl (.nil))))) ?_
  · exact ⟨by omega, by simp, M0⟩
  rintro i w5 ⟨hi, hn, M5⟩
  refine WC.seq ?_
  refine WC.region ?_
  refine WL.ex rfl rfl rfl (Ex.lss rfl rfl) ?_
  refine WL.nil ?_
  refine WX.next (?_)
  refine WC.seq ?_
  refine WC.cond_dec rfl (fun hc9 => ?_) (fun hc9 => ?_)
  · obtain ⟨s, hsi⟩ : ∃ s, l[i]? = some s := ⟨_, List.getElem?_eq_getElem (by omega)⟩
    obtain ⟨b0, o0, hA, _⟩ := hr.plain (by rw [List.length_map]; omega)
    subst hA
    refine WC.skip ?_
    refine WX.next (?_)
    refine WC.seq ?_
    refine WC.block ?_
    refine WC.seq ?_
    refine WC.region ?_
    refine WL.ex rfl rfl rfl (Ex.mv rfl) ?_
    refine WL.ex rfl rfl rfl (Ex.asg rfl) ?_
    refine WL.nil ?_
    refine WX.next (?_)
    refine WC.seq ?_
    refine WC.region ?_
    refine WL.ex rfl rfl rfl (Ex.mv rfl) ?_
    refine WL.ex rfl rfl rfl (Ex.mv rfl) ?_
    refine WL.ex rfl rfl rfl (Ex.mv rfl) ?_
    refine WL.ex rfl rfl rfl (Ex.ia Tryd.underlying46 sz9 rfl rfl ⟨by omega, by omega⟩) ?_
    refine WL.ex rfl rfl rfl (Ex.load ty9 rfl (by have hq := (M5.rd hr).at1 (strsV_get hsi); simpa using hq)) ?_
    refine WL.ex rfl rfl rfl (Ex.eqS rfl rfl) ?_
    refine WL.nil ?_
    refine WX.next (?_)
    refine WC.cond_dec rfl (fun h16 => ?_) (fun h16 => ?_)
    · have hfw := fX_hit (x := x) (l := l) (i := i) (by rw [h16]; exact hsi) hn
      refine WC.seq ?_
      refine WC.region ?_
      refine WL.ex rfl rfl rfl (Ex.mv rfl) ?_
      refine WL.ex rfl rfl rfl (Ex.asg rfl) ?_
      refine WL.nil ?_
      refine WX.next (?_)
      refine WC.ret ?_
      refine WX.ret_block (WX.ret_then (WX.ret_then (WX.ret_block (WX.ret_then (?_)))))
      refine WX.ret1 rfl rfl ?_
      first | rw [hfw, if_pos (by omega)] | rw [hfw, if_neg (by omega)]
      exact ⟨rfl, M5.keep⟩
    · skip
      refine WC.skip ?_
      refine WX.normal_block (WX.next (?_))
      refine WC.region ?_
      refine WL.ex rfl rfl rfl (Ex.add rfl rfl (i64w _ (by omega) (by omega))) ?_
      refine WL.ex rfl rfl rfl (Ex.mv rfl) ?_
      refine WL.nil ?_
      refine WX.again (i + 1) ?_ ?_ (.cons rfl (.cons rfl (.cons rfl (.cons rfl (.nil)))))
      · (try dsimp only); omega
      · refine ⟨by omega, ?_, M5⟩
        rw [take_snoc hsi]
        intro y hy
        rcases List.mem_append.1 hy with h | h
        · exact hn y h
        · obtain rfl : y = s := by simpa using h
          exact h16
  · obtain rfl : i = l.length := by omega
    rw [List.take_length] at hn
    have hfw := fX_none hn
    refine WC.exit ?_
    refine WX.exit_then (WX.exit_then (WX.exit_block (WX.next (?_))))
    refine WC.seq ?_
    refine WC.region ?_
    refine WL.ex rfl rfl rfl (Ex.asg rfl) ?_
    refine WL.nil ?_
    refine WX.next (?_)
    refine WC.ret ?_
    refine WX.ret1 rfl rfl ?_
    first | rw [hfw, if_pos (by omega)] | rw [hfw, if_neg (by omega)]
    exact ⟨rfl, M5.keep⟩

/- sponsion/call.Kind -/
theorem kd_ok (w : World) (x : List UInt8) (hT : NmT w) :
    Gives Tryd.prog 8 #[str x] w fun u w1 => u = .tuple #[.int .i64 (kdF x).1, .bool (kdF x).2] ∧ Keep nof w w1 := by
  have M0 := Mem.start w nof
  refine Gives.enter (n := 12) Tryd.func8 rfl Tryd.ntmps8 rfl (env := [(0, str x)]) rfl ?_
  refine WC.seq ?_
  refine WC.region ?_
  refine WL.ex rfl rfl rfl (Ex.asg rfl) ?_
  refine WL.ex rfl rfl rfl (Ex.asg rfl) ?_
  refine WL.nil ?_
  refine WX.next (?_)
  refine WC.seq ?_
  refine WC.region ?_
  refine WL.ex rfl rfl rfl (Ex.slA Tryd.underlying44 sz9 rfl) ?_
  refine WL.ex rfl rfl rfl (Ex.mv rfl) ?_
  refine WL.ac rfl rfl rfl (Ac.call rfl Tryd.func10 nm10 rfl (idxS_ok w (some ⟨0, 0, none⟩) 17 nmL x (hT.keep0 M0.keep) (by decide))) ?_; rintro v5 w5 ⟨rfl, K5⟩
  rw [show nmL.length = 17 from rfl]
  have M5 := M0.step K5
  by_cases hk : fX x nmL < 17
  · rw [if_pos hk]
    have he : kdF x = (((fX x nmL : Nat) : Int), true) := if_pos hk
    refine WL.ex rfl rfl rfl (Ex.asg rfl) ?_
    refine WL.nil ?_
    refine WX.next (?_)
    refine WC.seq ?_
    refine WC.region ?_
    refine WL.ex rfl rfl rfl (Ex.mv rfl) ?_
    refine WL.ex rfl rfl rfl (Ex.max2 rfl rfl rfl) ?_
    rw [show (if ((fX x nmL : Nat) : Int) < 0 then (0 : Int) else ((fX x nmL : Nat) : Int)) = ((fX x nmL : Nat) : Int) by split <;> omega]
    refine WL.ex rfl rfl rfl (Ex.mv rfl) ?_
    refine WL.ex rfl rfl rfl (Ex.geq rfl rfl) ?_
    rw [decide_eq_true (show ((fX x nmL : Nat) : Int) ≥ 0 by omega)]
    refine WL.ex rfl rfl rfl (Ex.asg rfl) ?_
    refine WL.ex rfl rfl rfl (Ex.asg rfl) ?_
    refine WL.nil ?_
    refine WX.next (?_)
    refine WC.ret ?_
    refine WX.ret2 rfl rfl rfl ?_
    rw [he]
    exact ⟨rfl, M5.keep⟩
  · rw [if_neg hk]
    have he : kdF x = (0, false) := if_neg hk
    refine WL.ex rfl rfl rfl (Ex.asg rfl) ?_
    refine WL.nil ?_
    refine WX.next (?_)
    refine WC.seq ?_
    refine WC.region ?_
    refine WL.ex rfl rfl rfl (Ex.mv rfl) ?_
    refine WL.ex rfl rfl rfl (Ex.max2 rfl rfl rfl) ?_
    rw [show (if (-1 : Int) < 0 then (0 : Int) else (-1)) = 0 from rfl]
    refine WL.ex rfl rfl rfl (Ex.mv rfl) ?_
    refine WL.ex rfl rfl rfl (Ex.geq rfl rfl) ?_
    rw [show decide ((-1 : Int) ≥ 0) = false from rfl]
    refine WL.ex rfl rfl rfl (Ex.asg rfl) ?_
    refine WL.ex rfl rfl rfl (Ex.asg rfl) ?_
    refine WL.nil ?_
    refine WX.next (?_)
    refine WC.ret ?_
    refine WX.ret2 rfl rfl rfl ?_
    rw [he]
    exact ⟨rfl, M5.keep⟩

/- sponsion/sponsionref08.Signs -/
theorem rsg_ok (w : World) (z : Int) :
    Gives Tryd.prog 5 #[.int .i64 z] w fun u w1 => u = .tuple #[str (sgF z), .bool (decide (0 ≤ z ∧ z < 17))] ∧ Keep nof w w1 := by
  have M0 := Mem.start w nof
  refine Gives.enter (n := 31) Tryd.func5 rfl Tryd.ntmps5 rfl (env := [(0, .int .i64 z)]) rfl ?_
  refine WC.seq ?_
  refine WC.region ?_
  refine WL.ex rfl rfl rfl (Ex.asg rfl) ?_
  refine WL.ex rfl rfl rfl (Ex.asg rfl) ?_
  refine WL.nil ?_
  refine WX.next (?_)
  refine WC.seq ?_
  refine WC.seq ?_
  refine WC.region ?_
  refine WL.ex rfl rfl rfl (Ex.mv rfl) ?_
  refine WL.nil ?_
  refine WX.next (?_)
  refine WC.block ?_
  refine WC.seq ?_
  refine WC.seq ?_
  refine WC.region ?_
  refine WL.ex rfl rfl rfl (Ex.eqI rfl rfl) ?_
  refine WL.ex rfl rfl rfl (Ex.asg rfl) ?_
  refine WL.nil ?_
  refine WX.next (?_)
  refine WC.cond_dec rfl (fun h5 => ?_) (fun h5 => ?_)
  · rw [decide_eq_true h5]
    refine WC.skip ?_
    refine WX.next (?_)
    refine WC.yes rfl ?_
    refine WC.seq ?_
    refine WC.region ?_
    refine WL.ex rfl rfl rfl (Ex.asg rfl) ?_
    refine WL.ex rfl rfl rfl (Ex.asg rfl) ?_
    refine WL.nil ?_
    refine WX.next (?_)
    refine WC.ret ?_
    refine WX.ret_block (WX.ret_then (?_))
    refine WX.ret2 rfl rfl rfl ?_
    first | ((have hz : z = 0 := by omega); subst hz; exact ⟨rfl, M0.keep⟩) | ((have hz : z = 1 := by omega); subst hz; exact ⟨rfl, M0.keep⟩) | ((have hz : z = 2 := by omega); subst hz; exact ⟨rfl, M0.keep⟩) | ((have hz : z = 3 := by omega); subst hz; exact ⟨rfl, M0.keep⟩) | ((have hz : z = 4 := by omega); subst hz; exact ⟨rfl, M0.keep⟩) | ((have hz : z = 5 := by omega); subst hz; exact ⟨rfl, M0.keep⟩) | ((have hz : z = 6 := by omega); subst hz; exact ⟨rfl, M0.keep⟩) | ((have hz : z = 7 := by omega); subst hz; exact ⟨rfl, M0.keep⟩) | ((have hz : z = 8 := by omega); subst hz; exact ⟨rfl, M0.keep⟩) | ((have hz : z = 9 := by omega); subst hz; exact ⟨rfl, M0.keep⟩) | ((have hz : z = 10 := by omega); subst hz; exact ⟨rfl, M0.keep⟩) | ((have hz : z = 11 := by omega); subst hz; exact ⟨rfl, M0.keep⟩) | ((have hz : z = 12 := by omega); subst hz; exact ⟨rfl, M0.keep⟩) | ((have hz : z = 13 := by omega); subst hz; exact ⟨rfl, M0.keep⟩) | ((have hz : z = 14 := by omega); subst hz; exact ⟨rfl, M0.keep⟩) | ((have hz : z = 15 := by omega); subst hz; exact ⟨rfl, M0.keep⟩) | ((have hz : z = 16 := by omega); subst hz; exact ⟨rfl, M0.keep⟩) | (rw [sgF_out (by omega), decide_eq_false (by omega)]; exact ⟨rfl, M0.keep⟩)
  · rw [decide_eq_false h5]
    refine WC.seq ?_
    refine WC.region ?_
    refine WL.ex rfl rfl rfl (Ex.eqI rfl rfl) ?_
    refine WL.ex rfl rfl rfl (Ex.asg rfl) ?_
    refine WL.nil ?_
    refine WX.next (?_)
    refine WC.cond_dec rfl (fun h5 => ?_) (fun h5 => ?_)
    · rw [decide_eq_true h5]
      refine WC.skip ?_
      refine WX.next (?_)
      refine WC.yes rfl ?_
      refine WC.seq ?_
      refine WC.region ?_
      refine WL.ex rfl rfl rfl (Ex.asg rfl) ?_
      refine WL.ex rfl rfl rfl (Ex.asg rfl) ?_
      refine WL.nil ?_
      refine WX.next (?_)
      refine WC.ret ?_
      refine WX.ret_block (WX.ret_then (?_))
      refine WX.ret2 rfl rfl rfl ?_
      first | ((have hz : z = 0 := by omega); subst hz; exact ⟨rfl, M0.keep⟩) | ((have hz : z = 1 := by omega); subst hz; exact ⟨rfl, M0.keep⟩) | ((have hz : z = 2 := by omega); subst hz; exact ⟨rfl, M0.keep⟩) | ((have hz : z = 3 := by omega); subst hz; exact ⟨rfl, M0.keep⟩) | ((have hz : z = 4 := by omega); subst hz; exact ⟨rfl, M0.keep⟩) | ((have hz : z = 5 := by omega); subst hz; exact ⟨rfl, M0.keep⟩) | ((have hz : z = 6 := by omega); subst hz; exact ⟨rfl, M0.keep⟩) | ((have hz : z = 7 := by omega); subst hz; exact ⟨rfl, M0.keep⟩) | ((have hz : z = 8 := by omega); subst hz; exact ⟨rfl, M0.keep⟩) | ((have hz : z = 9 := by omega); subst hz; exact ⟨rfl, M0.keep⟩) | ((have hz : z = 10 := by omega); subst hz; exact ⟨rfl, M0.keep⟩) | ((have hz : z = 11 := by omega); subst hz; exact ⟨rfl, M0.keep⟩) | ((have hz : z = 12 := by omega); subst hz; exact ⟨rfl, M0.keep⟩) | ((have hz : z = 13 := by omega); subst hz; exact ⟨rfl, M0.keep⟩) | ((have hz : z = 14 := by omega); subst hz; exact ⟨rfl, M0.keep⟩) | ((have hz : z = 15 := by omega); subst hz; exact ⟨rfl, M0.keep⟩) | ((have hz : z = 16 := by omega); subst hz; exact ⟨rfl, M0.keep⟩) | (rw [sgF_out (by omega), decide_eq_false (by omega)]; exact ⟨rfl, M0.keep⟩)
    · rw [decide_eq_false h5]
      refine WC.region ?_
      refine WL.ex rfl rfl rfl (Ex.eqI rfl rfl) ?_
      refine WL.ex rfl rfl rfl (Ex.asg rfl) ?_
      refine WL.nil ?_
      refine WX.next (?_)
      refine WC.cond_dec rfl (fun h5 => ?_) (fun h5 => ?_)
      · rw [decide_eq_true h5]
        refine WC.seq ?_
        refine WC.region ?_
        refine WL.ex rfl rfl rfl (Ex.asg rfl) ?_
        refine WL.ex rfl rfl rfl (Ex.asg rfl) ?_
        refine WL.nil ?_
        refine WX.next (?_)
        refine WC.ret ?_
        refine WX.ret_block (WX.ret_then (?_))
        refine WX.ret2 rfl rfl rfl ?_
        first | ((have hz : z = 0 := by omega); subst hz; exact ⟨rfl, M0.keep⟩) | ((have hz : z = 1 := by omega); subst hz; exact ⟨rfl, M0.keep⟩) | ((have hz : z = 2 := by omega); subst hz; exact ⟨rfl, M0.keep⟩) | ((have hz : z = 3 := by omega); subst hz; exact ⟨rfl, M0.keep⟩) | ((have hz : z = 4 := by omega); subst hz; exact ⟨rfl, M0.keep⟩) | ((have hz : z = 5 := by omega); subst hz; exact ⟨rfl, M0.keep⟩) | ((have hz : z = 6 := by omega); subst hz; exact ⟨rfl, M0.keep⟩) | ((have hz : z = 7 := by omega); subst hz; exact ⟨rfl, M0.keep⟩) | ((have hz : z = 8 := by omega); subst hz; exact ⟨rfl, M0.keep⟩) | ((have hz : z = 9 := by omega); subst hz; exact ⟨rfl, M0.keep⟩) | ((have hz : z = 10 := by omega); subst hz; exact ⟨rfl, M0.keep⟩) | ((have hz : z = 11 := by omega); subst hz; exact ⟨rfl, M0.keep⟩) | ((have hz : z = 12 := by omega); subst hz; exact ⟨rfl, M0.keep⟩) | ((have hz : z = 13 := by omega); subst hz; exact ⟨rfl, M0.keep⟩) | ((have hz : z = 14 := by omega); subst hz; exact ⟨rfl, M0.keep⟩) | ((have hz : z = 15 := by omega); subst hz; exact ⟨rfl, M0.keep⟩) | ((have hz : z = 16 := by omega); subst hz; exact ⟨rfl, M0.keep⟩) | (rw [sgF_out (by omega), decide_eq_false (by omega)]; exact ⟨rfl, M0.keep⟩)
      · rw [decide_eq_false h5]
        refine WC.seq ?_
        refine WC.region ?_
        refine WL.ex rfl rfl rfl (Ex.eqI rfl rfl) ?_
        refine WL.ex rfl rfl rfl (Ex.asg rfl) ?_
        refine WL.nil ?_
        refine WX.next (?_)
        refine WC.cond_dec rfl (fun hc9 => ?_) (fun hc9 => ?_)
        · skip
          refine WC.seq ?_
          refine WC.region ?_
          refine WL.ex rfl rfl rfl (Ex.asg rfl) ?_
          refine WL.ex rfl rfl rfl (Ex.asg rfl) ?_
          refine WL.nil ?_
          refine WX.next (?_)
          refine WC.ret ?_
          refine WX.ret_block (WX.ret_then (?_))
          refine WX.ret2 rfl rfl rfl ?_
          first | ((have hz : z = 0 := by omega); subst hz; exact ⟨rfl, M0.keep⟩) | ((have hz : z = 1 := by omega); subst hz; exact ⟨rfl, M0.keep⟩) | ((have hz : z = 2 := by omega); subst hz; exact ⟨rfl, M0.keep⟩) | ((have hz : z = 3 := by omega); subst hz; exact ⟨rfl, M0.keep⟩) | ((have hz : z = 4 := by omega); subst hz; exact ⟨rfl, M0.keep⟩) | ((have hz : z = 5 := by omega); subst hz; exact ⟨rfl, M0.keep⟩) | ((have hz : z = 6 := by omega); subst hz; exact ⟨rfl, M0.keep⟩) | ((have hz : z = 7 := by omega); subst hz; exact ⟨rfl, M0.keep⟩) | ((have hz : z = 8 := by omega); subst hz; exact ⟨rfl, M0.keep⟩) | ((have hz : z = 9 := by omega); subst hz; exact ⟨rfl, M0.keep⟩) | ((have hz : z = 10 := by omega); subst hz; exact ⟨rfl, M0.keep⟩) | ((have hz : z = 11 := by omega); subst hz; exact ⟨rfl, M0.keep⟩) | ((have hz : z = 12 := by omega); subst hz; exact ⟨rfl, M0.keep⟩) | ((have hz : z = 13 := by omega); subst hz; exact ⟨rfl, M0.keep⟩) | ((have hz : z = 14 := by omega); subst hz; exact ⟨rfl, M0.keep⟩) | ((have hz : z = 15 := by omega); subst hz; exact ⟨rfl, M0.keep⟩) | ((have hz : z = 16 := by omega); subst hz; exact ⟨rfl, M0.keep⟩) | (rw [sgF_out (by omega), decide_eq_false (by omega)]; exact ⟨rfl, M0.keep⟩)
        · skip
          refine WC.seq ?_
          refine WC.region ?_
          refine WL.ex rfl rfl rfl (Ex.eqI rfl rfl) ?_
          refine WL.ex rfl rfl rfl (Ex.asg rfl) ?_
          refine WL.nil ?_
          refine WX.next (?_)
          refine WC.cond_dec rfl (fun hc11 => ?_) (fun hc11 => ?_)
          · skip
            refine WC.seq ?_
            refine WC.region ?_
            refine WL.ex rfl rfl rfl (Ex.asg rfl) ?_
            refine WL.ex rfl rfl rfl (Ex.asg rfl) ?_
            refine WL.nil ?_
            refine WX.next (?_)
            refine WC.ret ?_
            refine WX.ret_block (WX.ret_then (?_))
            refine WX.ret2 rfl rfl rfl ?_
            first | ((have hz : z = 0 := by omega); subst hz; exact ⟨rfl, M0.keep⟩) | ((have hz : z = 1 := by omega); subst hz; exact ⟨rfl, M0.keep⟩) | ((have hz : z = 2 := by omega); subst hz; exact ⟨rfl, M0.keep⟩) | ((have hz : z = 3 := by omega); subst hz; exact ⟨rfl, M0.keep⟩) | ((have hz : z = 4 := by omega); subst hz; exact ⟨rfl, M0.keep⟩) | ((have hz : z = 5 := by omega); subst hz; exact ⟨rfl, M0.keep⟩) | ((have hz : z = 6 := by omega); subst hz; exact ⟨rfl, M0.keep⟩) | ((have hz : z = 7 := by omega); subst hz; exact ⟨rfl, M0.keep⟩) | ((have hz : z = 8 := by omega); subst hz; exact ⟨rfl, M0.keep⟩) | ((have hz : z = 9 := by omega); subst hz; exact ⟨rfl, M0.keep⟩) | ((have hz : z = 10 := by omega); subst hz; exact ⟨rfl, M0.keep⟩) | ((have hz : z = 11 := by omega); subst hz; exact ⟨rfl, M0.keep⟩) | ((have hz : z = 12 := by omega); subst hz; exact ⟨rfl, M0.keep⟩) | ((have hz : z = 13 := by omega); subst hz; exact ⟨rfl, M0.keep⟩) | ((have hz : z = 14 := by omega); subst hz; exact ⟨rfl, M0.keep⟩) | ((have hz : z = 15 := by omega); subst hz; exact ⟨rfl, M0.keep⟩) | ((have hz : z = 16 := by omega); subst hz; exact ⟨rfl, M0.keep⟩) | (rw [sgF_out (by omega), decide_eq_false (by omega)]; exact ⟨rfl, M0.keep⟩)
          · skip
            refine WC.seq ?_
            refine WC.seq ?_
            refine WC.region ?_
            refine WL.ex rfl rfl rfl (Ex.eqI rfl rfl) ?_
            refine WL.ex rfl rfl rfl (Ex.asg rfl) ?_
            refine WL.nil ?_
            refine WX.next (?_)
            refine WC.cond_dec rfl (fun h13 => ?_) (fun h13 => ?_)
            · rw [decide_eq_true h13]
              refine WC.skip ?_
              refine WX.next (?_)
              refine WC.yes rfl ?_
              refine WC.seq ?_
              refine WC.region ?_
              refine WL.ex rfl rfl rfl (Ex.asg rfl) ?_
              refine WL.ex rfl rfl rfl (Ex.asg rfl) ?_
              refine WL.nil ?_
              refine WX.next (?_)
              refine WC.ret ?_
              refine WX.ret_block (WX.ret_then (?_))
              refine WX.ret2 rfl rfl rfl ?_
              first | ((have hz : z = 0 := by omega); subst hz; exact ⟨rfl, M0.keep⟩) | ((have hz : z = 1 := by omega); subst hz; exact ⟨rfl, M0.keep⟩) | ((have hz : z = 2 := by omega); subst hz; exact ⟨rfl, M0.keep⟩) | ((have hz : z = 3 := by omega); subst hz; exact ⟨rfl, M0.keep⟩) | ((have hz : z = 4 := by omega); subst hz; exact ⟨rfl, M0.keep⟩) | ((have hz : z = 5 := by omega); subst hz; exact ⟨rfl, M0.keep⟩) | ((have hz : z = 6 := by omega); subst hz; exact ⟨rfl, M0.keep⟩) | ((have hz : z = 7 := by omega); subst hz; exact ⟨rfl, M0.keep⟩) | ((have hz : z = 8 := by omega); subst hz; exact ⟨rfl, M0.keep⟩) | ((have hz : z = 9 := by omega); subst hz; exact ⟨rfl, M0.keep⟩) | ((have hz : z = 10 := by omega); subst hz; exact ⟨rfl, M0.keep⟩) | ((have hz : z = 11 := by omega); subst hz; exact ⟨rfl, M0.keep⟩) | ((have hz : z = 12 := by omega); subst hz; exact ⟨rfl, M0.keep⟩) | ((have hz : z = 13 := by omega); subst hz; exact ⟨rfl, M0.keep⟩) | ((have hz : z = 14 := by omega); subst hz; exact ⟨rfl, M0.keep⟩) | ((have hz : z = 15 := by omega); subst hz; exact ⟨rfl, M0.keep⟩) | ((have hz : z = 16 := by omega); subst hz; exact ⟨rfl, M0.keep⟩) | (rw [sgF_out (by omega), decide_eq_false (by omega)]; exact ⟨rfl, M0.keep⟩)
            · rw [decide_eq_false h13]
              refine WC.seq ?_
              refine WC.region ?_
              refine WL.ex rfl rfl rfl (Ex.eqI rfl rfl) ?_
              refine WL.ex rfl rfl rfl (Ex.asg rfl) ?_
              refine WL.nil ?_
              refine WX.next (?_)
              refine WC.cond_dec rfl (fun h13 => ?_) (fun h13 => ?_)
              · rw [decide_eq_true h13]
                refine WC.skip ?_
                refine WX.next (?_)
                refine WC.yes rfl ?_
                refine WC.seq ?_
                refine WC.region ?_
                refine WL.ex rfl rfl rfl (Ex.asg rfl) ?_
                refine WL.ex rfl rfl rfl (Ex.asg rfl) ?_
                refine WL.nil ?_
                refine WX.next (?_)
                refine WC.ret ?_
                refine WX.ret_block (WX.ret_then (?_))
                refine WX.ret2 rfl rfl rfl ?_
                first | ((have hz : z = 0 := by omega); subst hz; exact ⟨rfl, M0.keep⟩) | ((have hz : z = 1 := by omega); subst hz; exact ⟨rfl, M0.keep⟩) | ((have hz : z = 2 := by omega); subst hz; exact ⟨rfl, M0.keep⟩) | ((have hz : z = 3 := by omega); subst hz; exact ⟨rfl, M0.keep⟩) | ((have hz : z = 4 := by omega); subst hz; exact ⟨rfl, M0.keep⟩) | ((have hz : z = 5 := by omega); subst hz; exact ⟨rfl, M0.keep⟩) | ((have hz : z = 6 := by omega); subst hz; exact ⟨rfl, M0.keep⟩) | ((have hz : z = 7 := by omega); subst hz; exact ⟨rfl, M0.keep⟩) | ((have hz : z = 8 := by omega); subst hz; exact ⟨rfl, M0.keep⟩) | ((have hz : z = 9 := by omega); subst hz; exact ⟨rfl, M0.keep⟩) | ((have hz : z = 10 := by omega); subst hz; exact ⟨rfl, M0.keep⟩) | ((have hz : z = 11 := by omega); subst hz; exact ⟨rfl, M0.keep⟩) | ((have hz : z = 12 := by omega); subst hz; exact ⟨rfl, M0.keep⟩) | ((have hz : z = 13 := by omega); subst hz; exact ⟨rfl, M0.keep⟩) | ((have hz : z = 14 := by omega); subst hz; exact ⟨rfl, M0.keep⟩) | ((have hz : z = 15 := by omega); subst hz; exact ⟨rfl, M0.keep⟩) | ((have hz : z = 16 := by omega); subst hz; exact ⟨rfl, M0.keep⟩) | (rw [sgF_out (by omega), decide_eq_false (by omega)]; exact ⟨rfl, M0.keep⟩)
              · rw [decide_eq_false h13]
                refine WC.region ?_
                refine WL.ex rfl rfl rfl (Ex.eqI rfl rfl) ?_
                refine WL.ex rfl rfl rfl (Ex.asg rfl) ?_
                refine WL.nil ?_
                refine WX.next (?_)
                refine WC.cond_dec rfl (fun h13 => ?_) (fun h13 => ?_)
                · rw [decide_eq_true h13]
                  refine WC.seq ?_
                  refine WC.region ?_
                  refine WL.ex rfl rfl rfl (Ex.asg rfl) ?_
                  refine WL.ex rfl rfl rfl (Ex.asg rfl) ?_
                  refine WL.nil ?_
                  refine WX.next (?_)
                  refine WC.ret ?_
                  refine WX.ret_block (WX.ret_then (?_))
                  refine WX.ret2 rfl rfl rfl ?_
                  first | ((have hz : z = 0 := by omega); subst hz; exact ⟨rfl, M0.keep⟩) | ((have hz : z = 1 := by omega); subst hz; exact ⟨rfl, M0.keep⟩) | ((have hz : z = 2 := by omega); subst hz; exact ⟨rfl, M0.keep⟩) | ((have hz : z = 3 := by omega); subst hz; exact ⟨rfl, M0.keep⟩) | ((have hz : z = 4 := by omega); subst hz; exact ⟨rfl, M0.keep⟩) | ((have hz : z = 5 := by omega); subst hz; exact ⟨rfl, M0.keep⟩) | ((have hz : z = 6 := by omega); subst hz; exact ⟨rfl, M0.keep⟩) | ((have hz : z = 7 := by omega); subst hz; exact ⟨rfl, M0.keep⟩) | ((have hz : z = 8 := by omega); subst hz; exact ⟨rfl, M0.keep⟩) | ((have hz : z = 9 := by omega); subst hz; exact ⟨rfl, M0.keep⟩) | ((have hz : z = 10 := by omega); subst hz; exact ⟨rfl, M0.keep⟩) | ((have hz : z = 11 := by omega); subst hz; exact ⟨rfl, M0.keep⟩) | ((have hz : z = 12 := by omega); subst hz; exact ⟨rfl, M0.keep⟩) | ((have hz : z = 13 := by omega); subst hz; exact ⟨rfl, M0.keep⟩) | ((have hz : z = 14 := by omega); subst hz; exact ⟨rfl, M0.keep⟩) | ((have hz : z = 15 := by omega); subst hz; exact ⟨rfl, M0.keep⟩) | ((have hz : z = 16 := by omega); subst hz; exact ⟨rfl, M0.keep⟩) | (rw [sgF_out (by omega), decide_eq_false (by omega)]; exact ⟨rfl, M0.keep⟩)
                · rw [decide_eq_false h13]
                  refine WC.seq ?_
                  refine WC.region ?_
                  refine WL.ex rfl rfl rfl (Ex.eqI rfl rfl) ?_
                  refine WL.ex rfl rfl rfl (Ex.asg rfl) ?_
                  refine WL.nil ?_
                  refine WX.next (?_)
                  refine WC.cond_dec rfl (fun hc17 => ?_) (fun hc17 => ?_)
                  · skip
                    refine WC.seq ?_
                    refine WC.region ?_
                    refine WL.ex rfl rfl rfl (Ex.asg rfl) ?_
                    refine WL.ex rfl rfl rfl (Ex.asg rfl) ?_
                    refine WL.nil ?_
                    refine WX.next (?_)
                    refine WC.ret ?_
                    refine WX.ret_block (WX.ret_then (?_))
                    refine WX.ret2 rfl rfl rfl ?_
                    first | ((have hz : z = 0 := by omega); subst hz; exact ⟨rfl, M0.keep⟩) | ((have hz : z = 1 := by omega); subst hz; exact ⟨rfl, M0.keep⟩) | ((have hz : z = 2 := by omega); subst hz; exact ⟨rfl, M0.keep⟩) | ((have hz : z = 3 := by omega); subst hz; exact ⟨rfl, M0.keep⟩) | ((have hz : z = 4 := by omega); subst hz; exact ⟨rfl, M0.keep⟩) | ((have hz : z = 5 := by omega); subst hz; exact ⟨rfl, M0.keep⟩) | ((have hz : z = 6 := by omega); subst hz; exact ⟨rfl, M0.keep⟩) | ((have hz : z = 7 := by omega); subst hz; exact ⟨rfl, M0.keep⟩) | ((have hz : z = 8 := by omega); subst hz; exact ⟨rfl, M0.keep⟩) | ((have hz : z = 9 := by omega); subst hz; exact ⟨rfl, M0.keep⟩) | ((have hz : z = 10 := by omega); subst hz; exact ⟨rfl, M0.keep⟩) | ((have hz : z = 11 := by omega); subst hz; exact ⟨rfl, M0.keep⟩) | ((have hz : z = 12 := by omega); subst hz; exact ⟨rfl, M0.keep⟩) | ((have hz : z = 13 := by omega); subst hz; exact ⟨rfl, M0.keep⟩) | ((have hz : z = 14 := by omega); subst hz; exact ⟨rfl, M0.keep⟩) | ((have hz : z = 15 := by omega); subst hz; exact ⟨rfl, M0.keep⟩) | ((have hz : z = 16 := by omega); subst hz; exact ⟨rfl, M0.keep⟩) | (rw [sgF_out (by omega), decide_eq_false (by omega)]; exact ⟨rfl, M0.keep⟩)
                  · skip
                    refine WC.seq ?_
                    refine WC.seq ?_
                    refine WC.region ?_
                    refine WL.ex rfl rfl rfl (Ex.eqI rfl rfl) ?_
                    refine WL.ex rfl rfl rfl (Ex.asg rfl) ?_
                    refine WL.nil ?_
                    refine WX.next (?_)
                    refine WC.cond_dec rfl (fun h19 => ?_) (fun h19 => ?_)
                    · rw [decide_eq_true h19]
                      refine WC.skip ?_
                      refine WX.next (?_)
                      refine WC.yes rfl ?_
                      refine WC.seq ?_
                      refine WC.region ?_
                      refine WL.ex rfl rfl rfl (Ex.asg rfl) ?_
                      refine WL.ex rfl rfl rfl (Ex.asg rfl) ?_
                      refine WL.nil ?_
                      refine WX.next (?_)
                      refine WC.ret ?_
                      refine WX.ret_block (WX.ret_then (?_))
                      refine WX.ret2 rfl rfl rfl ?_
                      first | ((have hz : z = 0 := by omega); subst hz; exact ⟨rfl, M0.keep⟩) | ((have hz : z = 1 := by omega); subst hz; exact ⟨rfl, M0.keep⟩) | ((have hz : z = 2 := by omega); subst hz; exact ⟨rfl, M0.keep⟩) | ((have hz : z = 3 := by omega); subst hz; exact ⟨rfl, M0.keep⟩) | ((have hz : z = 4 := by omega); subst hz; exact ⟨rfl, M0.keep⟩) | ((have hz : z = 5 := by omega); subst hz; exact ⟨rfl, M0.keep⟩) | ((have hz : z = 6 := by omega); subst hz; exact ⟨rfl, M0.keep⟩) | ((have hz : z = 7 := by omega); subst hz; exact ⟨rfl, M0.keep⟩) | ((have hz : z = 8 := by omega); subst hz; exact ⟨rfl, M0.keep⟩) | ((have hz : z = 9 := by omega); subst hz; exact ⟨rfl, M0.keep⟩) | ((have hz : z = 10 := by omega); subst hz; exact ⟨rfl, M0.keep⟩) | ((have hz : z = 11 := by omega); subst hz; exact ⟨rfl, M0.keep⟩) | ((have hz : z = 12 := by omega); subst hz; exact ⟨rfl, M0.keep⟩) | ((have hz : z = 13 := by omega); subst hz; exact ⟨rfl, M0.keep⟩) | ((have hz : z = 14 := by omega); subst hz; exact ⟨rfl, M0.keep⟩) | ((have hz : z = 15 := by omega); subst hz; exact ⟨rfl, M0.keep⟩) | ((have hz : z = 16 := by omega); subst hz; exact ⟨rfl, M0.keep⟩) | (rw [sgF_out (by omega), decide_eq_false (by omega)]; exact ⟨rfl, M0.keep⟩)
                    · rw [decide_eq_false h19]
                      refine WC.seq ?_
                      refine WC.region ?_
                      refine WL.ex rfl rfl rfl (Ex.eqI rfl rfl) ?_
                      refine WL.ex rfl rfl rfl (Ex.asg rfl) ?_
                      refine WL.nil ?_
                      refine WX.next (?_)
                      refine WC.cond_dec rfl (fun h19 => ?_) (fun h19 => ?_)
                      · rw [decide_eq_true h19]
                        refine WC.skip ?_
                        refine WX.next (?_)
                        refine WC.yes rfl ?_
                        refine WC.seq ?_
                        refine WC.region ?_
                        refine WL.ex rfl rfl rfl (Ex.asg rfl) ?_
                        refine WL.ex rfl rfl rfl (Ex.asg rfl) ?_
                        refine WL.nil ?_
                        refine WX.next (?_)
                        refine WC.ret ?_
                        refine WX.ret_block (WX.ret_then (?_))
                        refine WX.ret2 rfl rfl rfl ?_
                        first | ((have hz : z = 0 := by omega); subst hz; exact ⟨rfl, M0.keep⟩) | ((have hz : z = 1 := by omega); subst hz; exact ⟨rfl, M0.keep⟩) | ((have hz : z = 2 := by omega); subst hz; exact ⟨rfl, M0.keep⟩) | ((have hz : z = 3 := by omega); subst hz; exact ⟨rfl, M0.keep⟩) | ((have hz : z = 4 := by omega); subst hz; exact ⟨rfl, M0.keep⟩) | ((have hz : z = 5 := by omega); subst hz; exact ⟨rfl, M0.keep⟩) | ((have hz : z = 6 := by omega); subst hz; exact ⟨rfl, M0.keep⟩) | ((have hz : z = 7 := by omega); subst hz; exact ⟨rfl, M0.keep⟩) | ((have hz : z = 8 := by omega); subst hz; exact ⟨rfl, M0.keep⟩) | ((have hz : z = 9 := by omega); subst hz; exact ⟨rfl, M0.keep⟩) | ((have hz : z = 10 := by omega); subst hz; exact ⟨rfl, M0.keep⟩) | ((have hz : z = 11 := by omega); subst hz; exact ⟨rfl, M0.keep⟩) | ((have hz : z = 12 := by omega); subst hz; exact ⟨rfl, M0.keep⟩) | ((have hz : z = 13 := by omega); subst hz; exact ⟨rfl, M0.keep⟩) | ((have hz : z = 14 := by omega); subst hz; exact ⟨rfl, M0.keep⟩) | ((have hz : z = 15 := by omega); subst hz; exact ⟨rfl, M0.keep⟩) | ((have hz : z = 16 := by omega); subst hz; exact ⟨rfl, M0.keep⟩) | (rw [sgF_out (by omega), decide_eq_false (by omega)]; exact ⟨rfl, M0.keep⟩)
                      · rw [decide_eq_false h19]
                        refine WC.region ?_
                        refine WL.ex rfl rfl rfl (Ex.eqI rfl rfl) ?_
                        refine WL.ex rfl rfl rfl (Ex.asg rfl) ?_
                        refine WL.nil ?_
                        refine WX.next (?_)
                        refine WC.cond_dec rfl (fun h19 => ?_) (fun h19 => ?_)
                        · rw [decide_eq_true h19]
                          refine WC.seq ?_
                          refine WC.region ?_
                          refine WL.ex rfl rfl rfl (Ex.asg rfl) ?_
                          refine WL.ex rfl rfl rfl (Ex.asg rfl) ?_
                          refine WL.nil ?_
                          refine WX.next (?_)
                          refine WC.ret ?_
                          refine WX.ret_block (WX.ret_then (?_))
                          refine WX.ret2 rfl rfl rfl ?_
                          first | ((have hz : z = 0 := by omega); subst hz; exact ⟨rfl, M0.keep⟩) | ((have hz : z = 1 := by omega); subst hz; exact ⟨rfl, M0.keep⟩) | ((have hz : z = 2 := by omega); subst hz; exact ⟨rfl, M0.keep⟩) | ((have hz : z = 3 := by omega); subst hz; exact ⟨rfl, M0.keep⟩) | ((have hz : z = 4 := by omega); subst hz; exact ⟨rfl, M0.keep⟩) | ((have hz : z = 5 := by omega); subst hz; exact ⟨rfl, M0.keep⟩) | ((have hz : z = 6 := by omega); subst hz; exact ⟨rfl, M0.keep⟩) | ((have hz : z = 7 := by omega); subst hz; exact ⟨rfl, M0.keep⟩) | ((have hz : z = 8 := by omega); subst hz; exact ⟨rfl, M0.keep⟩) | ((have hz : z = 9 := by omega); subst hz; exact ⟨rfl, M0.keep⟩) | ((have hz : z = 10 := by omega); subst hz; exact ⟨rfl, M0.keep⟩) | ((have hz : z = 11 := by omega); subst hz; exact ⟨rfl, M0.keep⟩) | ((have hz : z = 12 := by omega); subst hz; exact ⟨rfl, M0.keep⟩) | ((have hz : z = 13 := by omega); subst hz; exact ⟨rfl, M0.keep⟩) | ((have hz : z = 14 := by omega); subst hz; exact ⟨rfl, M0.keep⟩) | ((have hz : z = 15 := by omega); subst hz; exact ⟨rfl, M0.keep⟩) | ((have hz : z = 16 := by omega); subst hz; exact ⟨rfl, M0.keep⟩) | (rw [sgF_out (by omega), decide_eq_false (by omega)]; exact ⟨rfl, M0.keep⟩)
                        · rw [decide_eq_false h19]
                          refine WC.seq ?_
                          refine WC.seq ?_
                          refine WC.region ?_
                          refine WL.ex rfl rfl rfl (Ex.eqI rfl rfl) ?_
                          refine WL.ex rfl rfl rfl (Ex.asg rfl) ?_
                          refine WL.nil ?_
                          refine WX.next (?_)
                          refine WC.cond_dec rfl (fun h23 => ?_) (fun h23 => ?_)
                          · rw [decide_eq_true h23]
                            refine WC.skip ?_
                            refine WX.next (?_)
                            refine WC.yes rfl ?_
                            refine WC.seq ?_
                            refine WC.region ?_
                            refine WL.ex rfl rfl rfl (Ex.asg rfl) ?_
                            refine WL.ex rfl rfl rfl (Ex.asg rfl) ?_
                            refine WL.nil ?_
                            refine WX.next (?_)
                            refine WC.ret ?_
                            refine WX.ret_block (WX.ret_then (?_))
                            refine WX.ret2 rfl rfl rfl ?_
                            first | ((have hz : z = 0 := by omega); subst hz; exact ⟨rfl, M0.keep⟩) | ((have hz : z = 1 := by omega); subst hz; exact ⟨rfl, M0.keep⟩) | ((have hz : z = 2 := by omega); subst hz; exact ⟨rfl, M0.keep⟩) | ((have hz : z = 3 := by omega); subst hz; exact ⟨rfl, M0.keep⟩) | ((have hz : z = 4 := by omega); subst hz; exact ⟨rfl, M0.keep⟩) | ((have hz : z = 5 := by omega); subst hz; exact ⟨rfl, M0.keep⟩) | ((have hz : z = 6 := by omega); subst hz; exact ⟨rfl, M0.keep⟩) | ((have hz : z = 7 := by omega); subst hz; exact ⟨rfl, M0.keep⟩) | ((have hz : z = 8 := by omega); subst hz; exact ⟨rfl, M0.keep⟩) | ((have hz : z = 9 := by omega); subst hz; exact ⟨rfl, M0.keep⟩) | ((have hz : z = 10 := by omega); subst hz; exact ⟨rfl, M0.keep⟩) | ((have hz : z = 11 := by omega); subst hz; exact ⟨rfl, M0.keep⟩) | ((have hz : z = 12 := by omega); subst hz; exact ⟨rfl, M0.keep⟩) | ((have hz : z = 13 := by omega); subst hz; exact ⟨rfl, M0.keep⟩) | ((have hz : z = 14 := by omega); subst hz; exact ⟨rfl, M0.keep⟩) | ((have hz : z = 15 := by omega); subst hz; exact ⟨rfl, M0.keep⟩) | ((have hz : z = 16 := by omega); subst hz; exact ⟨rfl, M0.keep⟩) | (rw [sgF_out (by omega), decide_eq_false (by omega)]; exact ⟨rfl, M0.keep⟩)
                          · rw [decide_eq_false h23]
                            refine WC.region ?_
                            refine WL.ex rfl rfl rfl (Ex.eqI rfl rfl) ?_
                            refine WL.ex rfl rfl rfl (Ex.asg rfl) ?_
                            refine WL.nil ?_
                            refine WX.next (?_)
                            refine WC.cond_dec rfl (fun h23 => ?_) (fun h23 => ?_)
                            · rw [decide_eq_true h23]
                              refine WC.seq ?_
                              refine WC.region ?_
                              refine WL.ex rfl rfl rfl (Ex.asg rfl) ?_
                              refine WL.ex rfl rfl rfl (Ex.asg rfl) ?_
                              refine WL.nil ?_
                              refine WX.next (?_)
                              refine WC.ret ?_
                              refine WX.ret_block (WX.ret_then (?_))
                              refine WX.ret2 rfl rfl rfl ?_
                              first | ((have hz : z = 0 := by omega); subst hz; exact ⟨rfl, M0.keep⟩) | ((have hz : z = 1 := by omega); subst hz; exact ⟨rfl, M0.keep⟩) | ((have hz : z = 2 := by omega); subst hz; exact ⟨rfl, M0.keep⟩) | ((have hz : z = 3 := by omega); subst hz; exact ⟨rfl, M0.keep⟩) | ((have hz : z = 4 := by omega); subst hz; exact ⟨rfl, M0.keep⟩) | ((have hz : z = 5 := by omega); subst hz; exact ⟨rfl, M0.keep⟩) | ((have hz : z = 6 := by omega); subst hz; exact ⟨rfl, M0.keep⟩) | ((have hz : z = 7 := by omega); subst hz; exact ⟨rfl, M0.keep⟩) | ((have hz : z = 8 := by omega); subst hz; exact ⟨rfl, M0.keep⟩) | ((have hz : z = 9 := by omega); subst hz; exact ⟨rfl, M0.keep⟩) | ((have hz : z = 10 := by omega); subst hz; exact ⟨rfl, M0.keep⟩) | ((have hz : z = 11 := by omega); subst hz; exact ⟨rfl, M0.keep⟩) | ((have hz : z = 12 := by omega); subst hz; exact ⟨rfl, M0.keep⟩) | ((have hz : z = 13 := by omega); subst hz; exact ⟨rfl, M0.keep⟩) | ((have hz : z = 14 := by omega); subst hz; exact ⟨rfl, M0.keep⟩) | ((have hz : z = 15 := by omega); subst hz; exact ⟨rfl, M0.keep⟩) | ((have hz : z = 16 := by omega); subst hz; exact ⟨rfl, M0.keep⟩) | (rw [sgF_out (by omega), decide_eq_false (by omega)]; exact ⟨rfl, M0.keep⟩)
                            · rw [decide_eq_false h23]
                              refine WC.seq ?_
                              refine WC.region ?_
                              refine WL.ex rfl rfl rfl (Ex.eqI rfl rfl) ?_
                              refine WL.ex rfl rfl rfl (Ex.asg rfl) ?_
                              refine WL.nil ?_
                              refine WX.next (?_)
                              refine WC.cond_dec rfl (fun hc26 => ?_) (fun hc26 => ?_)
                              · skip
                                refine WC.seq ?_
                                refine WC.region ?_
                                refine WL.ex rfl rfl rfl (Ex.asg rfl) ?_
                                refine WL.ex rfl rfl rfl (Ex.asg rfl) ?_
                                refine WL.nil ?_
                                refine WX.next (?_)
                                refine WC.ret ?_
                                refine WX.ret_block (WX.ret_then (?_))
                                refine WX.ret2 rfl rfl rfl ?_
                                first | ((have hz : z = 0 := by omega); subst hz; exact ⟨rfl, M0.keep⟩) | ((have hz : z = 1 := by omega); subst hz; exact ⟨rfl, M0.keep⟩) | ((have hz : z = 2 := by omega); subst hz; exact ⟨rfl, M0.keep⟩) | ((have hz : z = 3 := by omega); subst hz; exact ⟨rfl, M0.keep⟩) | ((have hz : z = 4 := by omega); subst hz; exact ⟨rfl, M0.keep⟩) | ((have hz : z = 5 := by omega); subst hz; exact ⟨rfl, M0.keep⟩) | ((have hz : z = 6 := by omega); subst hz; exact ⟨rfl, M0.keep⟩) | ((have hz : z = 7 := by omega); subst hz; exact ⟨rfl, M0.keep⟩) | ((have hz : z = 8 := by omega); subst hz; exact ⟨rfl, M0.keep⟩) | ((have hz : z = 9 := by omega); subst hz; exact ⟨rfl, M0.keep⟩) | ((have hz : z = 10 := by omega); subst hz; exact ⟨rfl, M0.keep⟩) | ((have hz : z = 11 := by omega); subst hz; exact ⟨rfl, M0.keep⟩) | ((have hz : z = 12 := by omega); subst hz; exact ⟨rfl, M0.keep⟩) | ((have hz : z = 13 := by omega); subst hz; exact ⟨rfl, M0.keep⟩) | ((have hz : z = 14 := by omega); subst hz; exact ⟨rfl, M0.keep⟩) | ((have hz : z = 15 := by omega); subst hz; exact ⟨rfl, M0.keep⟩) | ((have hz : z = 16 := by omega); subst hz; exact ⟨rfl, M0.keep⟩) | (rw [sgF_out (by omega), decide_eq_false (by omega)]; exact ⟨rfl, M0.keep⟩)
                              · skip
                                refine WC.seq ?_
                                refine WC.seq ?_
                                refine WC.region ?_
                                refine WL.ex rfl rfl rfl (Ex.eqI rfl rfl) ?_
                                refine WL.ex rfl rfl rfl (Ex.asg rfl) ?_
                                refine WL.nil ?_
                                refine WX.next (?_)
                                refine WC.cond_dec rfl (fun h28 => ?_) (fun h28 => ?_)
                                · rw [decide_eq_true h28]
                                  refine WC.skip ?_
                                  refine WX.next (?_)
                                  refine WC.yes rfl ?_
                                  refine WC.seq ?_
                                  refine WC.region ?_
                                  refine WL.ex rfl rfl rfl (Ex.asg rfl) ?_
                                  refine WL.ex rfl rfl rfl (Ex.asg rfl) ?_
                                  refine WL.nil ?_
                                  refine WX.next (?_)
                                  refine WC.ret ?_
                                  refine WX.ret_block (WX.ret_then (?_))
                                  refine WX.ret2 rfl rfl rfl ?_
                                  first | ((have hz : z = 0 := by omega); subst hz; exact ⟨rfl, M0.keep⟩) | ((have hz : z = 1 := by omega); subst hz; exact ⟨rfl, M0.keep⟩) | ((have hz : z = 2 := by omega); subst hz; exact ⟨rfl, M0.keep⟩) | ((have hz : z = 3 := by omega); subst hz; exact ⟨rfl, M0.keep⟩) | ((have hz : z = 4 := by omega); subst hz; exact ⟨rfl, M0.keep⟩) | ((have hz : z = 5 := by omega); subst hz; exact ⟨rfl, M0.keep⟩) | ((have hz : z = 6 := by omega); subst hz; exact ⟨rfl, M0.keep⟩) | ((have hz : z = 7 := by omega); subst hz; exact ⟨rfl, M0.keep⟩) | ((have hz : z = 8 := by omega); subst hz; exact ⟨rfl, M0.keep⟩) | ((have hz : z = 9 := by omega); subst hz; exact ⟨rfl, M0.keep⟩) | ((have hz : z = 10 := by omega); subst hz; exact ⟨rfl, M0.keep⟩) | ((have hz : z = 11 := by omega); subst hz; exact ⟨rfl, M0.keep⟩) | ((have hz : z = 12 := by omega); subst hz; exact ⟨rfl, M0.keep⟩) | ((have hz : z = 13 := by omega); subst hz; exact ⟨rfl, M0.keep⟩) | ((have hz : z = 14 := by omega); subst hz; exact ⟨rfl, M0.keep⟩) | ((have hz : z = 15 := by omega); subst hz; exact ⟨rfl, M0.keep⟩) | ((have hz : z = 16 := by omega); subst hz; exact ⟨rfl, M0.keep⟩) | (rw [sgF_out (by omega), decide_eq_false (by omega)]; exact ⟨rfl, M0.keep⟩)
                                · rw [decide_eq_false h28]
                                  refine WC.region ?_
                                  refine WL.ex rfl rfl rfl (Ex.eqI rfl rfl) ?_
                                  refine WL.ex rfl rfl rfl (Ex.asg rfl) ?_
                                  refine WL.nil ?_
                                  refine WX.next (?_)
                                  refine WC.cond_dec rfl (fun h28 => ?_) (fun h28 => ?_)
                                  · rw [decide_eq_true h28]
                                    refine WC.seq ?_
                                    refine WC.region ?_
                                    refine WL.ex rfl rfl rfl (Ex.asg rfl) ?_
                                    refine WL.ex rfl rfl rfl (Ex.asg rfl) ?_
                                    refine WL.nil ?_
                                    refine WX.next (?_)
                                    refine WC.ret ?_
                                    refine WX.ret_block (WX.ret_then (?_))
                                    refine WX.ret2 rfl rfl rfl ?_
                                    first | ((have hz : z = 0 := by omega); subst hz; exact ⟨rfl, M0.keep⟩) | ((have hz : z = 1 := by omega); subst hz; exact ⟨rfl, M0.keep⟩) | ((have hz : z = 2 := by omega); subst hz; exact ⟨rfl, M0.keep⟩) | ((have hz : z = 3 := by omega); subst hz; exact ⟨rfl, M0.keep⟩) | ((have hz : z = 4 := by omega); subst hz; exact ⟨rfl, M0.keep⟩) | ((have hz : z = 5 := by omega); subst hz; exact ⟨rfl, M0.keep⟩) | ((have hz : z = 6 := by omega); subst hz; exact ⟨rfl, M0.keep⟩) | ((have hz : z = 7 := by omega); subst hz; exact ⟨rfl, M0.keep⟩) | ((have hz : z = 8 := by omega); subst hz; exact ⟨rfl, M0.keep⟩) | ((have hz : z = 9 := by omega); subst hz; exact ⟨rfl, M0.keep⟩) | ((have hz : z = 10 := by omega); subst hz; exact ⟨rfl, M0.keep⟩) | ((have hz : z = 11 := by omega); subst hz; exact ⟨rfl, M0.keep⟩) | ((have hz : z = 12 := by omega); subst hz; exact ⟨rfl, M0.keep⟩) | ((have hz : z = 13 := by omega); subst hz; exact ⟨rfl, M0.keep⟩) | ((have hz : z = 14 := by omega); subst hz; exact ⟨rfl, M0.keep⟩) | ((have hz : z = 15 := by omega); subst hz; exact ⟨rfl, M0.keep⟩) | ((have hz : z = 16 := by omega); subst hz; exact ⟨rfl, M0.keep⟩) | (rw [sgF_out (by omega), decide_eq_false (by omega)]; exact ⟨rfl, M0.keep⟩)
                                  · rw [decide_eq_false h28]
                                    refine WC.skip ?_
                                    refine WX.normal_block (WX.next (?_))
                                    refine WC.seq ?_
                                    refine WC.region ?_
                                    refine WL.ex rfl rfl rfl (Ex.asg rfl) ?_
                                    refine WL.ex rfl rfl rfl (Ex.asg rfl) ?_
                                    refine WL.nil ?_
                                    refine WX.next (?_)
                                    refine WC.ret ?_
                                    refine WX.ret2 rfl rfl rfl ?_
                                    first | ((have hz : z = 0 := by omega); subst hz; exact ⟨rfl, M0.keep⟩) | ((have hz : z = 1 := by omega); subst hz; exact ⟨rfl, M0.keep⟩) | ((have hz : z = 2 := by omega); subst hz; exact ⟨rfl, M0.keep⟩) | ((have hz : z = 3 := by omega); subst hz; exact ⟨rfl, M0.keep⟩) | ((have hz : z = 4 := by omega); subst hz; exact ⟨rfl, M0.keep⟩) | ((have hz : z = 5 := by omega); subst hz; exact ⟨rfl, M0.keep⟩) | ((have hz : z = 6 := by omega); subst hz; exact ⟨rfl, M0.keep⟩) | ((have hz : z = 7 := by omega); subst hz; exact ⟨rfl, M0.keep⟩) | ((have hz : z = 8 := by omega); subst hz; exact ⟨rfl, M0.keep⟩) | ((have hz : z = 9 := by omega); subst hz; exact ⟨rfl, M0.keep⟩) | ((have hz : z = 10 := by omega); subst hz; exact ⟨rfl, M0.keep⟩) | ((have hz : z = 11 := by omega); subst hz; exact ⟨rfl, M0.keep⟩) | ((have hz : z = 12 := by omega); subst hz; exact ⟨rfl, M0.keep⟩) | ((have hz : z = 13 := by omega); subst hz; exact ⟨rfl, M0.keep⟩) | ((have hz : z = 14 := by omega); subst hz; exact ⟨rfl, M0.keep⟩) | ((have hz : z = 15 := by omega); subst hz; exact ⟨rfl, M0.keep⟩) | ((have hz : z = 16 := by omega); subst hz; exact ⟨rfl, M0.keep⟩) | (rw [sgF_out (by omega), decide_eq_false (by omega)]; exact ⟨rfl, M0.keep⟩)

/- sponsion/call.form -/
theorem form_ok (w : World) (b : Bool) :
    Gives Tryd.prog 18 #[.bool b] w fun u w1 => u = .int .i64 (cond b 0 6) ∧ Keep nof w w1 := by
  have M0 := Mem.start w nof
  refine Gives.enter (n := 4) Tryd.func18 rfl Tryd.ntmps18 rfl (env := [(0, .bool b)]) rfl ?_
  refine WC.seq ?_
  refine WC.region ?_
  refine WL.ex rfl rfl rfl (Ex.asg rfl) ?_
  refine WL.nil ?_
  refine WX.next (?_)
  refine WC.seq ?_
  refine WC.seq ?_
  refine WC.region ?_
  refine WL.ex rfl rfl rfl (Ex.mv rfl) ?_
  refine WL.nil ?_
  refine WX.next (?_)
  refine WC.cond rfl (fun h3 => ?_) (fun h3 => ?_)
  · subst h3
    refine WC.seq ?_
    refine WC.region ?_
    refine WL.ex rfl rfl rfl (Ex.asg rfl) ?_
    refine WL.nil ?_
    refine WX.next (?_)
    refine WC.ret ?_
    refine WX.ret_then (?_)
    refine WX.ret1 rfl rfl ?_
    exact ⟨rfl, M0.keep⟩
  · subst h3
    refine WC.skip ?_
    refine WX.next (?_)
    refine WC.seq ?_
    refine WC.region ?_
    refine WL.ex rfl rfl rfl (Ex.asg rfl) ?_
    refine WL.nil ?_
    refine WX.next (?_)
    refine WC.ret ?_
    refine WX.ret1 rfl rfl ?_
    exact ⟨rfl, M0.keep⟩

end Go.Proofs.YtnjbhhedaloghaaDoor
