/- Walks, written by gen.py off the translation's own print: each says what the Go function comes to. -/
import Derived.Test.YtchmjpdkonfifaaDoorFacts
import Derived.Test.YtchmjpdkonfifaaDoorSrt
import Derived.Test.YtchmjpdkonfifaaDoorTree
import Derived.Test.YtchmjpdkonfifaaDoorAl
set_option linter.unusedVariables false
set_option linter.unusedSimpArgs false
namespace Go.Proofs.YtchmjpdkonfifaaDoor
open Go.Sx Go.RowKit
attribute [local irreducible] Ac Ex WL WC WX WP Gives

/- cmp.isNaN[uint64] -/
theorem nan_ok (w : World) (a : Nat) : Gives Tryd.prog 136 #[.int .u64 (a : Int)] w fun u w1 => u = .bool false ∧ Keep nof w w1 := by
  have M0 := Mem.start w nof
  refine Gives.enter (n := 6) Tryd.func136 rfl Tryd.ntmps136 rfl (env := [(0, .int .u64 (a : Int))]) rfl ?_
  refine qD ?_
  refine qB ?_
  refine qE ?_
  refine qD ?_
  refine qA ?_
  refine qA ?_
  refine WL.ex rfl rfl rfl (Ex.neI rfl rfl) ?_
  rw [decide_eq_true rfl]
  refine qB ?_
  refine qE ?_
  refine WC.ret ?_
  refine WX.ret1 rfl rfl ?_
  exact ⟨rfl, M0.keep⟩

/- cmp.Less[uint64] -/
theorem less_ok (w : World) (a b : Nat) : Gives Tryd.prog 125 #[.int .u64 (a : Int), .int .u64 (b : Int)] w fun u w1 => u = .bool (decide (a < b)) ∧ Keep nof w w1 := by
  have M0 := Mem.start w nof
  refine Gives.enter (n := 17) Tryd.func125 rfl Tryd.ntmps125 rfl (env := [(0, .int .u64 (a : Int)), (1, .int .u64 (b : Int))]) rfl ?_
  refine qD ?_
  refine qB ?_
  refine qE ?_
  refine qD ?_
  refine qA ?_
  refine WL.ac rfl rfl rfl (Ac.call rfl Tryd.func136 nm136 rfl (nan_ok w a)) ?_; rintro v3 w3 ⟨rfl, K3⟩
  have M3 := M0.step K3
  refine qA ?_
  refine WL.no rfl rfl rfl rfl rfl rfl ?_
  refine WL.no rfl rfl rfl rfl rfl rfl ?_
  refine WL.no rfl rfl rfl rfl rfl rfl ?_
  refine WL.ex rfl rfl rfl (Ex.pickF rfl rfl) ?_
  refine qA ?_
  refine WL.yes rfl rfl rfl rfl ?_
  refine qA ?_
  refine WL.yes rfl rfl rfl rfl ?_
  refine qA ?_
  refine WL.yes rfl rfl rfl rfl ?_
  refine WL.ex rfl rfl rfl (Ex.lss rfl rfl) ?_
  rw [show decide ((a : Int) < (b : Int)) = decide (a < b) from decide_eq_decide.2 (by omega)]
  refine WL.ex rfl rfl rfl (Ex.pickF rfl rfl) ?_
  refine qB ?_
  refine qE ?_
  refine WC.ret ?_
  refine WX.ret1 rfl rfl ?_
  exact ⟨rfl, M3.keep⟩

end Go.Proofs.YtchmjpdkonfifaaDoor

set_option linter.unusedVariables false
set_option linter.unusedSimpArgs false
namespace Go.Proofs.YtchmjpdkonfifaaDoor
open Go.Sx Go.RowKit
attribute [local irreducible] Ac Ex WL WC WX WP Gives

/- slices.insertionSortOrdered[uint64] -/
theorem ins_ok (w : World) (g c n a b : Nat) (xs : List Nat) (tl : List Value) (hR : (ub g xs tl 23).sat w) (hn : xs.length = n) (hab : a ≤ b) (hb : b ≤ xs.length) (hc : xs.length ≤ 1000000) :
    Gives Tryd.prog 119 #[.slice (some ⟨g, 0, none⟩) n c, .int .i64 (a : Int), .int .i64 (b : Int)] w fun u w1 => ∃ ys, Rel a b xs ys ∧ SrtR a b ys ∧ Turn w w1 (ub g xs tl 23) (ub g ys tl 23) := by
  obtain ⟨FF, hFF⟩ : ∃ FF : Nat → Prop, FF = (fun b => b ∈ (ub g xs tl 23).fp) := ⟨_, rfl⟩
  have M0 : Mem w w FF [ub g xs tl 23] := by rw [hFF]; exact Mem.begin hR
  refine Gives.enter (n := 49) Tryd.func119 rfl Tryd.ntmps119 rfl (env := [(0, .slice (some ⟨g, 0, none⟩) n c), (1, .int .i64 (a : Int)), (2, .int .i64 (b : Int))]) rfl ?_
  refine qD ?_
  refine qA ?_
  refine WL.ex rfl rfl rfl (Ex.add rfl rfl (i64w _ (by omega) (by omega))) ?_
  refine qB ?_
  refine qE ?_
  refine WC.block ?_
  refine WC.loop (σ := Nat × List Nat) (fun s => [(0, .slice (some ⟨g, 0, none⟩) n c), (1, .int .i64 (a : Int)), (2, .int .i64 (b : Int)), (6, .int .i64 (s.1 : Int))]) (fun s wr => a < s.1 ∧ s.1 ≤ b + 1 ∧ (a < b → s.1 ≤ b) ∧ Rel a b xs s.2 ∧ SrtR a s.1 s.2 ∧ Mem w wr FF [ub g s.2 tl 23]) (fun s => b + 1 - s.1) (((a + 1, xs) : Nat × List Nat)) ?_ (.cons rfl (.cons rfl (.cons rfl (.cons rfl (.nil))))) ?_
  · exact ⟨by omega, by omega, by omega, .refl _ _ _, .small _ (by omega), M0⟩
  rintro ⟨i, ys⟩ w4 ⟨hai, hib, hib2, hrl, hso, M4⟩
  dsimp only at hai hib hib2 hrl hso M4
  refine WC.sub (env' := [(0, .slice (some ⟨g, 0, none⟩) n c), (1, .int .i64 (a : Int)), (2, .int .i64 (b : Int)), (6, .int .i64 (i : Int))]) (.cons rfl (.cons rfl (.cons rfl (.cons rfl (.nil))))) ?_
  refine WC.seq ?_
  refine qD ?_
  refine qA ?_
  refine qA ?_
  refine WL.ex rfl rfl rfl (Ex.lss rfl rfl) ?_
  refine qE ?_
  refine WC.cond_dec rfl (fun hc12 => ?_) (fun hc12 => ?_)
  · have hyl := hrl.len
    refine WC.skip ?_
    refine WX.next ?_
    refine WC.seq ?_
    refine WC.block ?_
    refine qD ?_
    refine qA ?_
    refine qB ?_
    refine qE ?_
    refine WC.block ?_
    refine WC.loop (σ := Nat × List Nat) (fun s => [(0, .slice (some ⟨g, 0, none⟩) n c), (1, .int .i64 (a : Int)), (2, .int .i64 (b : Int)), (6, .int .i64 (i : Int)), (7, .int .i64 (s.1 : Int))]) (fun s wr => a ≤ s.1 ∧ s.1 ≤ i ∧ Rel a b xs s.2 ∧ Ins a i s.1 s.2 ∧ Mem w wr FF [ub g s.2 tl 23]) (fun s => s.1) (((i, ys) : Nat × List Nat)) ?_ (.cons rfl (.cons rfl (.cons rfl (.cons rfl (.cons rfl (.nil)))))) ?_
    · exact ⟨by omega, by omega, hrl, .start hso, M4⟩
    rintro ⟨j, zs⟩ w10 ⟨haj, hji, hrz, hin, M10⟩
    dsimp only at haj hji hrz hin M10
    refine WC.sub (env' := [(0, .slice (some ⟨g, 0, none⟩) n c), (1, .int .i64 (a : Int)), (2, .int .i64 (b : Int)), (6, .int .i64 (i : Int)), (7, .int .i64 (j : Int))]) (.cons rfl (.cons rfl (.cons rfl (.cons rfl (.cons rfl (.nil)))))) ?_
    refine WC.seq ?_
    refine WC.seq ?_
    refine WC.draw (Keep nof w10.drew) [13] (.one 0 0 (.one 1 0 (.one 2 0 (.one 3 0 (.one 4 0 (.one 5 0 (.one 6 0 (.one 8 0 (.one 9 0 (.one 10 0 (.one 11 0 (.one 7 1 (.one 12 1 (.one 13 2 (.one 14 0 .nil))))))))))))))) mixed (by kernel_rfl) (by kernel_rfl) (by kernel_rfl) (HQ.then_ (HQ.then_ (HQ.then_ (HQ.block (HQ.block (HQ.then_ (HQ.then_ (HQ.block HQ.body)))))))) ?_
    obtain ⟨w11, hw11⟩ : ∃ v, v = w10.drew := ⟨_, rfl⟩
    have D11 : Keep nof w10 w11 := by rw [hw11]; exact Keep.drew _ _
    have M11 := M10.step D11
    rw [← hw11]; clear hw11
    have hzl := hrz.len
    refine qC ?_
    refine qC ?_
    refine WP.p rfl rfl rfl rfl (fun _ => Ex.gtr rfl rfl) ?_
    refine qC ?_
    by_cases hja : (j : Int) > (a : Int)
    · rw [decide_eq_true hja]
      refine WP.py rfl rfl rfl rfl rfl rfl (fun _ => Ex.mv rfl) ?_
      refine WP.py rfl rfl rfl rfl rfl rfl (fun _ => Ex.mv rfl) ?_
      refine WP.py rfl rfl rfl rfl rfl rfl (fun _ => Ex.ia Tryd.underlying67 sz23 rfl rfl ⟨by omega, by omega⟩) ?_
      refine WP.py rfl rfl rfl rfl rfl rfl (fun _ => Ex.mv rfl) ?_
      refine WP.py rfl rfl rfl rfl rfl rfl (fun _ => Ex.mv rfl) ?_
      refine WP.py rfl rfl rfl rfl rfl rfl (fun _ => Ex.sub rfl rfl (i64w _ (by omega) (by omega))) ?_
      refine WP.py rfl rfl rfl rfl rfl rfl (fun _ => Ex.ia Tryd.underlying67 sz23 rfl rfl ⟨by omega, by omega⟩) ?_
      refine WP.qy (Keep.refl _ _) rfl rfl rfl rfl rfl rfl (fun w' hS => Ex.load ty23 rfl (hS.cell (ub_rd (M11.get (i := 0) rfl) (k := j) (by omega) (by omega)) (fun f => f))) ?_
      refine WP.qy (Keep.refl _ _) rfl rfl rfl rfl rfl rfl (fun w' hS => Ex.load ty23 rfl (hS.cell (ub_rd (M11.get (i := 0) rfl) (k := j - 1) (by omega) (by omega)) (fun f => f))) ?_
      refine WP.ay rfl rfl rfl rfl rfl rfl (Ac.call rfl Tryd.func125 nm125 rfl (less_ok w11 (gv zs (j)) (gv zs (j - 1)))) ?_; rintro v25 w25 ⟨rfl, K25⟩; refine .inl ⟨rfl, Keep nof w25, ?_⟩
      have M25 := M11.step K25
      refine WP.p rfl rfl rfl rfl (fun _ => Ex.pickT rfl rfl) ?_
      refine WP.nil ?_
      refine WX.next ?_
      refine WC.cond_dec rfl (fun hlt => ?_) (fun hlt => ?_)
      · skip
        refine WC.skip ?_
        refine WX.next ?_
        refine WC.seq ?_
        refine WC.block ?_
        refine WC.draw (Keep nof w25.drew) [15, 17] (.one 0 0 (.one 1 0 (.one 2 0 (.one 3 0 (.one 4 0 (.one 5 0 (.one 6 0 (.one 7 0 (.one 8 0 (.one 10 0 (.one 11 0 (.one 12 0 (.one 9 1 (.one 13 1 (.one 14 0 (.one 15 2 (.one 16 0 (.one 17 2 .nil)))))))))))))))))) mixed (by kernel_rfl) (by kernel_rfl) (by kernel_rfl) (HQ.block (HQ.then_ (HQ.then_ (HQ.block (HQ.block (HQ.then_ (HQ.then_ (HQ.block HQ.body)))))))) ?_
        obtain ⟨w27, hw27⟩ : ∃ v, v = w25.drew := ⟨_, rfl⟩
        have D27 : Keep nof w25 w27 := by rw [hw27]; exact Keep.drew _ _
        have M27 := M25.step D27
        rw [← hw27]; clear hw27
        refine qC ?_
        refine qC ?_
        refine qC ?_
        refine qC ?_
        refine WP.p rfl rfl rfl rfl (fun _ => Ex.sub rfl rfl (i64w _ (by omega) (by omega))) ?_
        refine qC ?_
        refine qC ?_
        refine WP.p rfl rfl rfl rfl (fun _ => Ex.sub rfl rfl (i64w _ (by omega) (by omega))) ?_
        refine WP.p rfl rfl rfl rfl (fun _ => Ex.ia Tryd.underlying67 sz23 rfl rfl ⟨by omega, by omega⟩) ?_
        refine qC ?_
        refine qC ?_
        refine WP.p rfl rfl rfl rfl (fun _ => Ex.ia Tryd.underlying67 sz23 rfl rfl ⟨by omega, by omega⟩) ?_
        refine WP.q (Keep.refl _ _) rfl rfl rfl rfl (fun w' hS => Ex.load ty23 rfl (hS.cell (ub_rd (M27.get (i := 0) rfl) (k := j - 1) (by omega) (by omega)) (fun f => f))) ?_
        refine WP.q (Keep.refl _ _) rfl rfl rfl rfl (fun w' hS => Ex.load ty23 rfl (hS.cell (ub_rd (M27.get (i := 0) rfl) (k := j) (by omega) (by omega)) (fun f => f))) ?_
        refine WP.p rfl rfl rfl rfl (fun _ => Ex.ia Tryd.underlying67 sz23 rfl rfl ⟨by omega, by omega⟩) ?_
        refine WP.a0 rfl rfl rfl (Ac.stU M27 ty23 rfl rfl (v := gv zs (j - 1)) (i := 0) rfl (k := j) (by omega) (by (try simp only [List.length_set, swp_len]); omega)) ?_; rintro v43 w43 ⟨K43, M43⟩; refine .inl ⟨rfl, Keep nof w43, ?_⟩
        try dsimp only [List.set] at M43
        refine WP.p rfl rfl rfl rfl (fun _ => Ex.ia Tryd.underlying67 sz23 rfl rfl ⟨by omega, by omega⟩) ?_
        refine WP.a0 rfl rfl rfl (Ac.stU M43 ty23 rfl rfl (v := gv zs j) (i := 0) rfl (k := j - 1) (by omega) (by (try simp only [List.length_set, swp_len]); omega)) ?_; rintro v45 w45 ⟨K45, M45⟩; refine .inl ⟨rfl, Keep nof w45, ?_⟩
        try dsimp only [List.set] at M45
        refine WP.nil ?_
        refine WX.normal_block (WX.next (?_))
        refine WC.region ?_
        refine qA ?_
        refine WL.ex rfl rfl rfl (Ex.sub rfl rfl (c := ((j - 1 : Nat) : Int)) (by rw [show (j : Int) - 1 = ((j - 1 : Nat) : Int) by omega]; exact i64w _ (by omega) (by omega))) ?_
        refine qB ?_
        refine WL.nil ?_
        refine WX.again (((j - 1, swp zs j (j - 1)) : Nat × List Nat)) ?_ ?_ (.cons rfl (.cons rfl (.cons rfl (.cons rfl (.cons rfl (.nil))))))
        · dsimp only; omega
        · exact ⟨by omega, by omega, hrz.trans (.swp (by have := hrz.len; omega) (by omega) (by omega) (by omega) (by omega)), hin.step (by omega) (by omega) (by omega) hlt, M45⟩
      · skip
        refine WC.exit ?_
        refine WX.exit_then (WX.exit_then (WX.exit_block (WX.normal_block (WX.next (?_)))))
        refine WC.region ?_
        refine qA ?_
        refine WL.ex rfl rfl rfl (Ex.add rfl rfl (i64w _ (by omega) (by omega))) ?_
        refine qB ?_
        refine WL.nil ?_
        refine WX.again (((i + 1, zs) : Nat × List Nat)) ?_ ?_ (.cons rfl (.cons rfl (.cons rfl (.cons rfl (.nil)))))
        · dsimp only; omega
        · exact ⟨by omega, by omega, by omega, hrz, hin.done (by omega) (by omega) (by first | exact .inl (by omega) | exact .inr (by omega)), M25⟩
    · rw [decide_eq_false hja]
      refine WP.no rfl rfl rfl rfl rfl rfl rfl ?_
      refine WP.no rfl rfl rfl rfl rfl rfl rfl ?_
      refine WP.no rfl rfl rfl rfl rfl rfl rfl ?_
      refine WP.no rfl rfl rfl rfl rfl rfl rfl ?_
      refine WP.no rfl rfl rfl rfl rfl rfl rfl ?_
      refine WP.no rfl rfl rfl rfl rfl rfl rfl ?_
      refine WP.no rfl rfl rfl rfl rfl rfl rfl ?_
      refine WP.no1 (Keep.refl _ _) rfl rfl rfl rfl rfl rfl rfl ?_
      refine WP.no1 (Keep.refl _ _) rfl rfl rfl rfl rfl rfl rfl ?_
      refine WP.no2 rfl rfl rfl rfl rfl rfl rfl ?_
      refine WP.p rfl rfl rfl rfl (fun _ => Ex.pickF rfl rfl) ?_
      refine WP.nil ?_
      refine WX.next ?_
      refine WC.no rfl ?_
      refine WC.exit ?_
      refine WX.exit_then (WX.exit_then (WX.exit_block (WX.normal_block (WX.next (?_)))))
      refine WC.region ?_
      refine qA ?_
      refine WL.ex rfl rfl rfl (Ex.add rfl rfl (i64w _ (by omega) (by omega))) ?_
      refine qB ?_
      refine WL.nil ?_
      refine WX.again (((i + 1, zs) : Nat × List Nat)) ?_ ?_ (.cons rfl (.cons rfl (.cons rfl (.cons rfl (.nil)))))
      · dsimp only; omega
      · exact ⟨by omega, by omega, by omega, hrz, hin.done (by omega) (by omega) (by first | exact .inl (by omega) | exact .inr (by omega)), M11⟩
  · skip
    refine WC.exit ?_
    refine WX.exit_then (WX.exit_then (WX.exit_block (?_)))
    refine WX.end0 rfl ?_
    subst hFF
    exact ⟨ys, hrl, fun p q h1 h2 h3 => hso p q h1 h2 (by omega), M4.toTurn⟩

end Go.Proofs.YtchmjpdkonfifaaDoor

set_option linter.unusedVariables false
set_option linter.unusedSimpArgs false
namespace Go.Proofs.YtchmjpdkonfifaaDoor
open Go.Sx Go.RowKit
attribute [local irreducible] Ac Ex WL WC WX WP Gives

/- slices.siftDownOrdered[uint64] -/
theorem sift_ok (w : World) (g c n lo hi f : Nat) (xs : List Nat) (tl : List Value) (hR : (ub g xs tl 23).sat w) (hn : xs.length = n) (hlh : lo ≤ hi) (hb : f + hi ≤ xs.length) (hc : xs.length ≤ 1000000) (hh : Hp f (lo + 1) hi xs) :
    Gives Tryd.prog 131 #[.slice (some ⟨g, 0, none⟩) n c, .int .i64 (lo : Int), .int .i64 (hi : Int), .int .i64 (f : Int)] w fun u w1 => ∃ ys, Rel f (f + hi) xs ys ∧ Hp f lo hi ys ∧ Turn w w1 (ub g xs tl 23) (ub g ys tl 23) := by
  obtain ⟨FF, hFF⟩ : ∃ FF : Nat → Prop, FF = (fun b => b ∈ (ub g xs tl 23).fp) := ⟨_, rfl⟩
  have M0 : Mem w w FF [ub g xs tl 23] := by rw [hFF]; exact Mem.begin hR
  refine Gives.enter (n := 76) Tryd.func131 rfl Tryd.ntmps131 rfl (env := [(0, .slice (some ⟨g, 0, none⟩) n c), (1, .int .i64 (lo : Int)), (2, .int .i64 (hi : Int)), (3, .int .i64 (f : Int))]) rfl ?_
  refine qD ?_
  refine qA ?_
  refine qB ?_
  refine qE ?_
  refine WC.block ?_
  refine WC.loop (σ := Nat × List Nat) (fun s => [(0, .slice (some ⟨g, 0, none⟩) n c), (2, .int .i64 (hi : Int)), (3, .int .i64 (f : Int)), (8, .int .i64 (s.1 : Int))]) (fun s wr => lo ≤ s.1 ∧ s.1 ≤ hi ∧ Rel f (f + hi) xs s.2 ∧ Sift f lo hi s.1 s.2 ∧ Mem w wr FF [ub g s.2 tl 23]) (fun s => hi - s.1) (((lo, xs) : Nat × List Nat)) ?_ (.cons rfl (.cons rfl (.cons rfl (.cons rfl (.nil))))) ?_
  · exact ⟨by omega, by omega, .refl _ _ _, .start hh, M0⟩
  rintro ⟨r, ys⟩ w3 ⟨hlr, hrh, hrl, hsf, M3⟩
  dsimp only at hlr hrh hrl hsf M3
  refine WC.sub (env' := [(0, .slice (some ⟨g, 0, none⟩) n c), (2, .int .i64 (hi : Int)), (3, .int .i64 (f : Int)), (8, .int .i64 (r : Int))]) (.cons rfl (.cons rfl (.cons rfl (.cons rfl (.nil))))) ?_
  refine WC.block ?_
  refine WC.seq ?_
  have hyl := hrl.len
  refine WC.region ?_
  refine qA ?_
  refine WL.ex rfl rfl rfl (Ex.mul rfl rfl (c := ((2 * r : Nat) : Int)) (wrapN (by omega) (by omega))) ?_
  refine WL.ex rfl rfl rfl (Ex.add rfl rfl (c := ((2 * r + 1 : Nat) : Int)) (wrapN (by omega) (by omega))) ?_
  refine qB ?_
  refine qE ?_
  refine WC.seq ?_
  refine qD ?_
  refine qA ?_
  refine qA ?_
  refine WL.ex rfl rfl rfl (Ex.geq rfl rfl) ?_
  refine qE ?_
  refine WC.cond_dec rfl (fun h16 => ?_) (fun h16 => ?_)
  · have hdone : Hp f lo hi ys := hsf.done (fun c h1 h2 => by omega)
    refine WC.exit ?_
    refine WX.exit_then (WX.exit_other rfl (WX.exit_then (WX.exit_block (?_))))
    refine WX.end0 rfl ?_
    subst hFF
    exact ⟨ys, hrl, hdone, M3.toTurn⟩
  · skip
    refine WC.skip ?_
    refine WX.next ?_
    refine WC.cut (σ := Nat) (fun m => [(0, .slice (some ⟨g, 0, none⟩) n c), (2, .int .i64 (hi : Int)), (3, .int .i64 (f : Int)), (8, .int .i64 (r : Int)), (9, .int .i64 (m : Int))]) (fun m wr => (m = 2 * r + 1 ∨ m = 2 * r + 2) ∧ m < hi ∧ (∀ c, (c = 2 * r + 1 ∨ c = 2 * r + 2) → c < hi → gv ys (f + c) ≤ gv ys (f + m)) ∧ Mem w wr FF [ub g ys tl 23]) ?_ ?_
    ·
      refine WC.seq ?_
      refine WC.draw (Keep nof w3.drew) [18] (.one 0 0 (.one 1 0 (.one 2 0 (.one 3 0 (.one 4 0 (.one 5 0 (.one 6 0 (.one 7 0 (.one 8 0 (.one 9 0 (.one 11 0 (.one 12 0 (.one 13 0 (.one 14 0 (.one 15 0 (.one 16 0 (.one 10 1 (.one 17 1 (.one 18 2 (.one 19 0 .nil)))))))))))))))))))) mixed (by kernel_rfl) (by kernel_rfl) (by kernel_rfl) (HQ.then_ (HQ.then_ (HQ.block (HQ.then_ (HQ.block HQ.body))))) ?_
      obtain ⟨w11, hw11⟩ : ∃ v, v = w3.drew := ⟨_, rfl⟩
      have D11 : Keep nof w3 w11 := by rw [hw11]; exact Keep.drew _ _
      have M11 := M3.step D11
      rw [← hw11]; clear hw11
      refine qC ?_
      refine WP.p rfl rfl rfl rfl (fun _ => Ex.add rfl rfl (c := ((2 * r + 2 : Nat) : Int)) (wrapN (by omega) (by omega))) ?_
      refine qC ?_
      refine WP.p rfl rfl rfl rfl (fun _ => Ex.lss rfl rfl) ?_
      refine qC ?_
      by_cases h2 : ((2 * r + 2 : Nat) : Int) < (hi : Int)
      · rw [decide_eq_true h2]
        refine WP.py rfl rfl rfl rfl rfl rfl (fun _ => Ex.mv rfl) ?_
        refine WP.py rfl rfl rfl rfl rfl rfl (fun _ => Ex.mv rfl) ?_
        refine WP.py rfl rfl rfl rfl rfl rfl (fun _ => Ex.mv rfl) ?_
        refine WP.py rfl rfl rfl rfl rfl rfl (fun _ => Ex.add rfl rfl (i64w _ (by omega) (by omega))) ?_
        refine WP.py rfl rfl rfl rfl rfl rfl (fun _ => Ex.ia Tryd.underlying67 sz23 rfl rfl ⟨by omega, by omega⟩) ?_
        refine WP.py rfl rfl rfl rfl rfl rfl (fun _ => Ex.mv rfl) ?_
        refine WP.py rfl rfl rfl rfl rfl rfl (fun _ => Ex.mv rfl) ?_
        refine WP.py rfl rfl rfl rfl rfl rfl (fun _ => Ex.mv rfl) ?_
        refine WP.py rfl rfl rfl rfl rfl rfl (fun _ => Ex.add rfl rfl (i64w _ (by omega) (by omega))) ?_
        refine WP.py rfl rfl rfl rfl rfl rfl (fun _ => Ex.add rfl rfl (i64w _ (by omega) (by omega))) ?_
        refine WP.py rfl rfl rfl rfl rfl rfl (fun _ => Ex.ia Tryd.underlying67 sz23 rfl rfl ⟨by omega, by omega⟩) ?_
        refine WP.qy (Keep.refl _ _) rfl rfl rfl rfl rfl rfl (fun w' hS => Ex.load ty23 rfl (hS.cell (ub_rd (M11.get (i := 0) rfl) (k := f + (2 * r + 1)) (by omega) (by omega)) (fun f => f))) ?_
        refine WP.qy (Keep.refl _ _) rfl rfl rfl rfl rfl rfl (fun w' hS => Ex.load ty23 rfl (hS.cell (ub_rd (M11.get (i := 0) rfl) (k := f + (2 * r + 2)) (by omega) (by omega)) (fun f => f))) ?_
        refine WP.ay rfl rfl rfl rfl rfl rfl (Ac.call rfl Tryd.func125 nm125 rfl (less_ok w11 (gv ys (f + (2 * r + 1))) (gv ys (f + (2 * r + 2))))) ?_; rintro v30 w30 ⟨rfl, K30⟩; refine .inl ⟨rfl, Keep nof w30, ?_⟩
        have M30 := M11.step K30
        refine WP.p rfl rfl rfl rfl (fun _ => Ex.pickT rfl rfl) ?_
        refine WP.nil ?_
        refine WX.next ?_
        refine WC.cond_dec rfl (fun h36 => ?_) (fun h36 => ?_)
        · skip
          refine WC.region ?_
          refine qA ?_
          refine WL.ex rfl rfl rfl (Ex.add rfl rfl (c := ((2 * r + 2 : Nat) : Int)) (wrapN (by omega) (by omega))) ?_
          refine qB ?_
          refine WL.nil ?_
          refine WX.join (2 * r + 2) ?_ (.cons rfl (.cons rfl (.cons rfl (.cons rfl (.cons rfl (.nil))))))
          refine ⟨by omega, by omega, fun c hc hch => ?_, M30⟩
          rcases hc with rfl | rfl <;> first | exact Nat.le_refl _ | omega
        · skip
          refine WC.skip ?_
          refine WX.join (2 * r + 1) ?_ (.cons rfl (.cons rfl (.cons rfl (.cons rfl (.cons rfl (.nil))))))
          refine ⟨by omega, by omega, fun c hc hch => ?_, M30⟩
          rcases hc with rfl | rfl <;> first | exact Nat.le_refl _ | omega
      · rw [decide_eq_false h2]
        refine WP.no rfl rfl rfl rfl rfl rfl rfl ?_
        refine WP.no rfl rfl rfl rfl rfl rfl rfl ?_
        refine WP.no rfl rfl rfl rfl rfl rfl rfl ?_
        refine WP.no rfl rfl rfl rfl rfl rfl rfl ?_
        refine WP.no rfl rfl rfl rfl rfl rfl rfl ?_
        refine WP.no rfl rfl rfl rfl rfl rfl rfl ?_
        refine WP.no rfl rfl rfl rfl rfl rfl rfl ?_
        refine WP.no rfl rfl rfl rfl rfl rfl rfl ?_
        refine WP.no rfl rfl rfl rfl rfl rfl rfl ?_
        refine WP.no rfl rfl rfl rfl rfl rfl rfl ?_
        refine WP.no rfl rfl rfl rfl rfl rfl rfl ?_
        refine WP.no1 (Keep.refl _ _) rfl rfl rfl rfl rfl rfl rfl ?_
        refine WP.no1 (Keep.refl _ _) rfl rfl rfl rfl rfl rfl rfl ?_
        refine WP.no2 rfl rfl rfl rfl rfl rfl rfl ?_
        refine WP.p rfl rfl rfl rfl (fun _ => Ex.pickF rfl rfl) ?_
        refine WP.nil ?_
        refine WX.next ?_
        refine WC.no rfl ?_
        refine WC.skip ?_
        refine WX.join (2 * r + 1) ?_ (.cons rfl (.cons rfl (.cons rfl (.cons rfl (.cons rfl (.nil))))))
        refine ⟨by omega, by omega, fun c hc hch => ?_, M11⟩
        rcases hc with rfl | rfl <;> first | exact Nat.le_refl _ | omega
    · rintro m w36 ⟨hm, hmh, hmx, M36⟩
      refine WC.seq ?_
      refine WC.seq ?_
      refine WC.draw (Keep nof w36.drew) [12] (.one 0 0 (.one 1 0 (.one 2 0 (.one 3 0 (.one 4 0 (.one 6 0 (.one 7 0 (.one 8 0 (.one 9 0 (.one 10 0 (.one 5 1 (.one 11 1 (.one 12 2 (.one 13 0 .nil)))))))))))))) mixed (by kernel_rfl) (by kernel_rfl) (by kernel_rfl) (HQ.then_ (HQ.then_ (HQ.block (HQ.then_ (HQ.block HQ.body))))) ?_
      obtain ⟨w37, hw37⟩ : ∃ v, v = w36.drew := ⟨_, rfl⟩
      have D37 : Keep nof w36 w37 := by rw [hw37]; exact Keep.drew _ _
      have M37 := M36.step D37
      rw [← hw37]; clear hw37
      refine qC ?_
      refine qC ?_
      refine qC ?_
      refine WP.p rfl rfl rfl rfl (fun _ => Ex.add rfl rfl (i64w _ (by omega) (by omega))) ?_
      refine WP.p rfl rfl rfl rfl (fun _ => Ex.ia Tryd.underlying67 sz23 rfl rfl ⟨by omega, by omega⟩) ?_
      refine qC ?_
      refine qC ?_
      refine qC ?_
      refine WP.p rfl rfl rfl rfl (fun _ => Ex.add rfl rfl (i64w _ (by omega) (by omega))) ?_
      refine WP.p rfl rfl rfl rfl (fun _ => Ex.ia Tryd.underlying67 sz23 rfl rfl ⟨by omega, by omega⟩) ?_
      refine WP.q (Keep.refl _ _) rfl rfl rfl rfl (fun w' hS => Ex.load ty23 rfl (hS.cell (ub_rd (M37.get (i := 0) rfl) (k := f + r) (by omega) (by omega)) (fun f => f))) ?_
      refine WP.q (Keep.refl _ _) rfl rfl rfl rfl (fun w' hS => Ex.load ty23 rfl (hS.cell (ub_rd (M37.get (i := 0) rfl) (k := f + m) (by omega) (by omega)) (fun f => f))) ?_
      refine WP.a rfl rfl rfl rfl (Ac.call rfl Tryd.func125 nm125 rfl (less_ok w37 (gv ys (f + r)) (gv ys (f + m)))) ?_; rintro v50 w50 ⟨rfl, K50⟩; refine .inl ⟨rfl, Keep nof w50, ?_⟩
      have M50 := M37.step K50
      refine WP.p rfl rfl rfl rfl (fun _ => Ex.not rfl) ?_
      refine WP.nil ?_
      refine WX.next ?_
      refine WC.cond rfl (fun h52 => ?_) (fun h52 => ?_)
      · have hge : ¬ gv ys (f + r) < gv ys (f + m) := by simpa using h52
        have hdone : Hp f lo hi ys := hsf.done (fun c h1 h2 => Nat.le_trans (hmx c h1 h2) (by omega))
        refine WC.ret ?_
        refine WX.ret_then (WX.ret_block (WX.ret_then (WX.ret_block (?_))))
        refine WX.ret0 rfl ?_
        subst hFF
        exact ⟨ys, hrl, hdone, M50.toTurn⟩
      · have hlt : gv ys (f + r) < gv ys (f + m) := by simpa using h52
        refine WC.skip ?_
        refine WX.next ?_
        refine WC.seq ?_
        refine WC.draw (Keep nof w50.drew) [21, 23] (.one 0 0 (.one 1 0 (.one 2 0 (.one 3 0 (.one 4 0 (.one 5 0 (.one 6 0 (.one 7 0 (.one 8 0 (.one 9 0 (.one 10 0 (.one 11 0 (.one 12 0 (.one 14 0 (.one 15 0 (.one 16 0 (.one 17 0 (.one 18 0 (.one 13 1 (.one 19 1 (.one 20 0 (.one 21 2 (.one 22 0 (.one 23 2 .nil)))))))))))))))))))))))) mixed (by kernel_rfl) (by kernel_rfl) (by kernel_rfl) (HQ.then_ (HQ.block (HQ.then_ (HQ.block HQ.body)))) ?_
        obtain ⟨w52, hw52⟩ : ∃ v, v = w50.drew := ⟨_, rfl⟩
        have D52 : Keep nof w50 w52 := by rw [hw52]; exact Keep.drew _ _
        have M52 := M50.step D52
        rw [← hw52]; clear hw52
        refine qC ?_
        refine qC ?_
        refine qC ?_
        refine WP.p rfl rfl rfl rfl (fun _ => Ex.add rfl rfl (i64w _ (by omega) (by omega))) ?_
        refine qC ?_
        refine qC ?_
        refine qC ?_
        refine WP.p rfl rfl rfl rfl (fun _ => Ex.add rfl rfl (i64w _ (by omega) (by omega))) ?_
        refine qC ?_
        refine qC ?_
        refine qC ?_
        refine WP.p rfl rfl rfl rfl (fun _ => Ex.add rfl rfl (i64w _ (by omega) (by omega))) ?_
        refine WP.p rfl rfl rfl rfl (fun _ => Ex.ia Tryd.underlying67 sz23 rfl rfl ⟨by omega, by omega⟩) ?_
        refine qC ?_
        refine qC ?_
        refine qC ?_
        refine WP.p rfl rfl rfl rfl (fun _ => Ex.add rfl rfl (i64w _ (by omega) (by omega))) ?_
        refine WP.p rfl rfl rfl rfl (fun _ => Ex.ia Tryd.underlying67 sz23 rfl rfl ⟨by omega, by omega⟩) ?_
        refine WP.q (Keep.refl _ _) rfl rfl rfl rfl (fun w' hS => Ex.load ty23 rfl (hS.cell (ub_rd (M52.get (i := 0) rfl) (k := f + m) (by omega) (by omega)) (fun f => f))) ?_
        refine WP.q (Keep.refl _ _) rfl rfl rfl rfl (fun w' hS => Ex.load ty23 rfl (hS.cell (ub_rd (M52.get (i := 0) rfl) (k := f + r) (by omega) (by omega)) (fun f => f))) ?_
        refine WP.p rfl rfl rfl rfl (fun _ => Ex.ia Tryd.underlying67 sz23 rfl rfl ⟨by omega, by omega⟩) ?_
        refine WP.a0 rfl rfl rfl (Ac.stU M52 ty23 rfl rfl (v := gv ys (f + m)) (i := 0) rfl (k := f + r) (by omega) (by (try simp only [List.length_set, swp_len]); omega)) ?_; rintro v74 w74 ⟨K74, M74⟩; refine .inl ⟨rfl, Keep nof w74, ?_⟩
        try dsimp only [List.set] at M74
        refine WP.p rfl rfl rfl rfl (fun _ => Ex.ia Tryd.underlying67 sz23 rfl rfl ⟨by omega, by omega⟩) ?_
        refine WP.a0 rfl rfl rfl (Ac.stU M74 ty23 rfl rfl (v := gv ys (f + r)) (i := 0) rfl (k := f + m) (by omega) (by (try simp only [List.length_set, swp_len]); omega)) ?_; rintro v76 w76 ⟨K76, M76⟩; refine .inl ⟨rfl, Keep nof w76, ?_⟩
        try dsimp only [List.set] at M76
        refine WP.nil ?_
        refine WX.next ?_
        refine WC.region ?_
        refine qA ?_
        refine qB ?_
        refine WL.nil ?_
        refine WX.normal_block (?_)
        refine WX.again (((m, swp ys (f + r) (f + m)) : Nat × List Nat)) ?_ ?_ (.cons rfl (.cons rfl (.cons rfl (.cons rfl (.nil)))))
        · dsimp only; omega
        · exact ⟨by omega, by omega, hrl.trans (.swp (by omega) (by omega) (by omega) (by omega) (by omega)), hsf.step (by omega) hm hmh (by omega) hmx hlt, M76⟩

/- slices.heapSortOrdered[uint64] -/
theorem heap_ok (w : World) (g c n a b : Nat) (xs : List Nat) (tl : List Value) (hR : (ub g xs tl 23).sat w) (hn : xs.length = n) (hab : a < b) (hb : b ≤ n) (hc : n ≤ 1000000) :
    Gives Tryd.prog 120 #[.slice (some ⟨g, 0, none⟩) n c, .int .i64 (a : Int), .int .i64 (b : Int)] w fun u w1 => ∃ ys, Rel a b xs ys ∧ SrtR a b ys ∧ Turn w w1 (ub g xs tl 23) (ub g ys tl 23) := by
  obtain ⟨FF, hFF⟩ : ∃ FF : Nat → Prop, FF = (fun b => b ∈ (ub g xs tl 23).fp) := ⟨_, rfl⟩
  have M0 : Mem w w FF [ub g xs tl 23] := by rw [hFF]; exact Mem.begin hR
  refine Gives.enter (n := 56) Tryd.func120 rfl Tryd.ntmps120 rfl (env := [(0, .slice (some ⟨g, 0, none⟩) n c), (1, .int .i64 (a : Int)), (2, .int .i64 (b : Int))]) rfl ?_
  refine qD ?_
  refine qA ?_
  refine qB ?_
  refine qE ?_
  refine qD ?_
  refine qB ?_
  refine qE ?_
  refine qD ?_
  refine qA ?_
  refine qA ?_
  refine WL.ex rfl rfl rfl (Ex.sub rfl rfl (c := ((b - a : Nat) : Int)) (wrapN (by omega) (by omega))) ?_
  refine qB ?_
  refine qE ?_
  refine WC.seq ?_
  refine qD ?_
  refine qA ?_
  refine WL.ex rfl rfl rfl (Ex.sub rfl rfl (c := ((b - a - 1 : Nat) : Int)) (wrapN (by omega) (by omega))) ?_
  refine WL.ex rfl rfl rfl (Ex.quo rfl rfl (by omega) (c := (((b - a - 1) / 2 + 1 : Nat) : Int) - 1) (by rw [Int.tdiv_eq_ediv_of_nonneg (by omega)]; exact wrapI (by omega) (by omega) (by omega))) ?_
  refine qB ?_
  refine qE ?_
  refine WC.block ?_
  refine WC.loop (σ := Nat × List Nat) (fun s => [(0, .slice (some ⟨g, 0, none⟩) n c), (6, .int .i64 (a : Int)), (7, .int .i64 (0 : Int)), (8, .int .i64 (((b - a : Nat) : Int) : Int)), (9, .int .i64 ((s.1 : Int) - 1 : Int))]) (fun s wr => s.1 ≤ b - a ∧ Rel a b xs s.2 ∧ Hp a s.1 (b - a) s.2 ∧ Mem w wr FF [ub g s.2 tl 23]) (fun s => s.1) ((((b - a - 1) / 2 + 1, xs) : Nat × List Nat)) ?_ (.cons rfl (.cons rfl (.cons rfl (.cons rfl (.cons rfl (.nil)))))) ?_
  · exact ⟨by omega, .refl _ _ _, fun p c h1 h2 h3 => by omega, M0⟩
  rintro ⟨k, ys⟩ w12 ⟨hkb, hrl, hhp, M12⟩
  dsimp only at hkb hrl hhp M12
  refine WC.sub (env' := [(0, .slice (some ⟨g, 0, none⟩) n c), (6, .int .i64 (a : Int)), (7, .int .i64 (0 : Int)), (8, .int .i64 (((b - a : Nat) : Int) : Int)), (9, .int .i64 ((k : Int) - 1 : Int))]) (.cons rfl (.cons rfl (.cons rfl (.cons rfl (.cons rfl (.nil)))))) ?_
  refine WC.seq ?_
  refine WC.seq ?_
  have hyl := hrl.len
  refine WC.region ?_
  refine qA ?_
  refine WL.ex rfl rfl rfl (Ex.geq rfl rfl) ?_
  refine qE ?_
  refine WC.cond_dec rfl (fun hc19 => ?_) (fun hc19 => ?_)
  · skip
    refine WC.skip ?_
    refine WX.next ?_
    refine WC.seq ?_
    refine WC.block ?_
    refine WC.region ?_
    refine qA ?_
    refine qA ?_
    refine qA ?_
    refine qA ?_
    refine WL.ac rfl rfl rfl (Ac.call rfl Tryd.func131 nm131 rfl ((by
      have hx := sift_ok w12 g c n (k - 1) (b - a) a (ys) tl (M12.get (i := 0) rfl) (by (try simp only [swp_len]); omega) (by omega) (by (try simp only [swp_len]); omega) (by (try simp only [swp_len]); omega) (by rw [Nat.sub_add_cancel (by omega)]; exact hhp)
      rw [show ((k - 1 : Nat) : Int) = (k : Int) - 1 by omega] at hx
      exact hx))) ?_; rintro v19 w19 ⟨zs, hrz, hpz, T19⟩
    have M19 := M12.turned (i := 0) rfl T19
    try dsimp only [List.set] at M19
    refine WL.nil ?_
    refine WX.normal_block (WX.next (?_))
    refine WC.region ?_
    refine qA ?_
    refine WL.ex rfl rfl rfl (Ex.sub rfl rfl (c := ((k - 1 : Nat) : Int) - 1) (wrapI (by omega) (by omega) (by omega))) ?_
    refine qB ?_
    refine WL.nil ?_
    refine WX.again (((k - 1, zs) : Nat × List Nat)) ?_ ?_ (.cons rfl (.cons rfl (.cons rfl (.cons rfl (.cons rfl (.nil))))))
    · dsimp only; omega
    · exact ⟨by omega, hrl.trans (hrz.mono (by omega) (by omega)), hpz, M19⟩
  · obtain rfl : k = 0 := by omega
    refine WC.exit ?_
    refine WX.exit_then (WX.exit_then (WX.exit_block (WX.next (?_))))
    refine qD ?_
    refine qA ?_
    refine WL.ex rfl rfl rfl (Ex.sub rfl rfl (c := ((b - a : Nat) : Int) - 1) (wrapI (by omega) (by omega) (by omega))) ?_
    refine qB ?_
    refine qE ?_
    refine WC.block ?_
    refine WC.loop (σ := Nat × List Nat) (fun s => [(0, .slice (some ⟨g, 0, none⟩) n c), (6, .int .i64 (a : Int)), (7, .int .i64 (0 : Int)), (10, .int .i64 ((s.1 : Int) - 1 : Int))]) (fun s wr => s.1 ≤ b - a ∧ Rel a b xs s.2 ∧ HeapS a b s.1 s.2 ∧ Mem w wr FF [ub g s.2 tl 23]) (fun s => s.1) (((b - a, ys) : Nat × List Nat)) ?_ (.cons rfl (.cons rfl (.cons rfl (.cons rfl (.nil))))) ?_
    · exact ⟨by omega, hrl, .start hhp (by omega), M12⟩
    rintro ⟨k, ys⟩ w26 ⟨hkb, hrl, hhs, M26⟩
    dsimp only at hkb hrl hhs M26
    refine WC.sub (env' := [(0, .slice (some ⟨g, 0, none⟩) n c), (6, .int .i64 (a : Int)), (7, .int .i64 (0 : Int)), (10, .int .i64 ((k : Int) - 1 : Int))]) (.cons rfl (.cons rfl (.cons rfl (.cons rfl (.nil))))) ?_
    refine WC.seq ?_
    refine WC.seq ?_
    have hyl := hrl.len
    refine WC.region ?_
    refine qA ?_
    refine WL.ex rfl rfl rfl (Ex.geq rfl rfl) ?_
    refine qE ?_
    refine WC.cond_dec rfl (fun hc30 => ?_) (fun hc30 => ?_)
    · skip
      refine WC.skip ?_
      refine WX.next ?_
      refine WC.seq ?_
      refine WC.block ?_
      refine WC.seq ?_
      refine WC.draw (Keep nof w26.drew) [17, 19] (.one 0 0 (.one 1 0 (.one 2 0 (.one 3 0 (.one 4 0 (.one 5 0 (.one 6 0 (.one 7 0 (.one 8 0 (.one 9 0 (.one 10 0 (.one 12 0 (.one 13 0 (.one 14 0 (.one 11 1 (.one 15 1 (.one 16 0 (.one 17 2 (.one 18 0 (.one 19 2 .nil)))))))))))))))))))) mixed (by kernel_rfl) (by kernel_rfl) (by kernel_rfl) (HQ.then_ (HQ.block (HQ.then_ (HQ.then_ (HQ.block HQ.body))))) ?_
      obtain ⟨w29, hw29⟩ : ∃ v, v = w26.drew := ⟨_, rfl⟩
      have D29 : Keep nof w26 w29 := by rw [hw29]; exact Keep.drew _ _
      have M29 := M26.step D29
      rw [← hw29]; clear hw29
      refine qC ?_
      refine qC ?_
      refine qC ?_
      refine qC ?_
      refine qC ?_
      refine WP.p rfl rfl rfl rfl (fun _ => Ex.add rfl rfl (i64w _ (by omega) (by omega))) ?_
      refine qC ?_
      refine qC ?_
      refine qC ?_
      refine WP.p rfl rfl rfl rfl (fun _ => Ex.add rfl rfl (i64w _ (by omega) (by omega))) ?_
      refine WP.p rfl rfl rfl rfl (fun _ => Ex.ia Tryd.underlying67 sz23 rfl rfl ⟨by omega, by omega⟩) ?_
      refine qC ?_
      refine qC ?_
      refine WP.p rfl rfl rfl rfl (fun _ => Ex.ia Tryd.underlying67 sz23 rfl rfl ⟨by omega, by omega⟩) ?_
      refine WP.q (Keep.refl _ _) rfl rfl rfl rfl (fun w' hS => Ex.load ty23 rfl (hS.cell (ub_rd (M29.get (i := 0) rfl) (k := a + (k - 1)) (by omega) (by omega)) (fun f => f))) ?_
      refine WP.q (Keep.refl _ _) rfl rfl rfl rfl (fun w' hS => Ex.load ty23 rfl (hS.cell (ub_rd (M29.get (i := 0) rfl) (k := a) (by omega) (by omega)) (fun f => f))) ?_
      refine WP.p rfl rfl rfl rfl (fun _ => Ex.ia Tryd.underlying67 sz23 rfl rfl ⟨by omega, by omega⟩) ?_
      refine WP.a0 rfl rfl rfl (Ac.stU M29 ty23 rfl rfl (v := gv ys (a + (k - 1))) (i := 0) rfl (k := a) (by omega) (by (try simp only [List.length_set, swp_len]); omega)) ?_; rintro v47 w47 ⟨K47, M47⟩; refine .inl ⟨rfl, Keep nof w47, ?_⟩
      try dsimp only [List.set] at M47
      refine WP.p rfl rfl rfl rfl (fun _ => Ex.ia Tryd.underlying67 sz23 rfl rfl ⟨by omega, by omega⟩) ?_
      refine WP.a0 rfl rfl rfl (Ac.stU M47 ty23 rfl rfl (v := gv ys a) (i := 0) rfl (k := a + (k - 1)) (by omega) (by (try simp only [List.length_set, swp_len]); omega)) ?_; rintro v49 w49 ⟨K49, M49⟩; refine .inl ⟨rfl, Keep nof w49, ?_⟩
      try dsimp only [List.set] at M49
      have hse : (ys.set a (gv ys (a + (k - 1)))).set (a + (k - 1)) (gv ys a) = swp ys a (a + (k - 1)) := rfl
      rw [hse] at M49
      refine WP.nil ?_
      refine WX.next ?_
      refine WC.region ?_
      refine qA ?_
      refine qA ?_
      refine qA ?_
      refine qA ?_
      refine WL.ac rfl rfl rfl (Ac.call rfl Tryd.func131 nm131 rfl ((by
        have hx := sift_ok w49 g c n (0) (k - 1) a (swp ys a (a + (k - 1))) tl (M49.get (i := 0) rfl) (by (try simp only [swp_len]); omega) (by omega) (by (try simp only [swp_len]); omega) (by (try simp only [swp_len]); omega) (hhs.pre (by omega) (by omega) (by omega))
        rw [show ((k - 1 : Nat) : Int) = (k : Int) - 1 by omega] at hx
        exact hx))) ?_; rintro v54 w54 ⟨zs, hrz, hpz, T54⟩
      have M54 := M49.turned (i := 0) rfl T54
      try dsimp only [List.set] at M54
      refine WL.nil ?_
      refine WX.normal_block (WX.next (?_))
      refine WC.region ?_
      refine qA ?_
      refine WL.ex rfl rfl rfl (Ex.sub rfl rfl (c := ((k - 1 : Nat) : Int) - 1) (wrapI (by omega) (by omega) (by omega))) ?_
      refine qB ?_
      refine WL.nil ?_
      refine WX.again (((k - 1, zs) : Nat × List Nat)) ?_ ?_ (.cons rfl (.cons rfl (.cons rfl (.cons rfl (.nil)))))
      · dsimp only; omega
      · exact ⟨by omega, (hrl.trans (.swp (by omega) (by omega) (by omega) (by omega) (by omega))).trans (hrz.mono (by omega) (by omega)), hhs.step (by omega) (by omega) (by omega) hrz hpz, M54⟩
    · obtain rfl : k = 0 := by omega
      refine WC.exit ?_
      refine WX.exit_then (WX.exit_then (WX.exit_block (?_)))
      refine WX.end0 rfl ?_
      subst hFF
      exact ⟨ys, hrl, hhs.so, M26.toTurn⟩

/- slices.reverseRangeOrdered[uint64] -/
theorem rev_ok (w : World) (g c n a b : Nat) (xs : List Nat) (tl : List Value) (hR : (ub g xs tl 23).sat w) (hn : xs.length = n) (hab : a < b) (hb : b ≤ n) (hc : n ≤ 1000000) :
    Gives Tryd.prog 123 #[.slice (some ⟨g, 0, none⟩) n c, .int .i64 (a : Int), .int .i64 (b : Int)] w fun u w1 => ∃ ys, Rel a b xs ys ∧ Turn w w1 (ub g xs tl 23) (ub g ys tl 23) := by
  obtain ⟨FF, hFF⟩ : ∃ FF : Nat → Prop, FF = (fun b => b ∈ (ub g xs tl 23).fp) := ⟨_, rfl⟩
  have M0 : Mem w w FF [ub g xs tl 23] := by rw [hFF]; exact Mem.begin hR
  refine Gives.enter (n := 32) Tryd.func123 rfl Tryd.ntmps123 rfl (env := [(0, .slice (some ⟨g, 0, none⟩) n c), (1, .int .i64 (a : Int)), (2, .int .i64 (b : Int))]) rfl ?_
  refine qD ?_
  refine qA ?_
  refine qB ?_
  refine qE ?_
  refine qD ?_
  refine qA ?_
  refine WL.ex rfl rfl rfl (Ex.sub rfl rfl (c := ((b - 1 : Nat) : Int)) (wrapN (by omega) (by omega))) ?_
  refine qB ?_
  refine qE ?_
  refine WC.block ?_
  refine WC.loop (σ := Nat × Nat × List Nat) (fun s => [(0, .slice (some ⟨g, 0, none⟩) n c), (6, .int .i64 (s.1 : Int)), (7, .int .i64 (s.2.1 : Int))]) (fun s wr => a ≤ s.1 ∧ s.2.1 < b ∧ Rel a b xs s.2.2 ∧ Mem w wr FF [ub g s.2.2 tl 23]) (fun s => s.2.1) (((a, b - 1, xs) : Nat × Nat × List Nat)) ?_ (.cons rfl (.cons rfl (.cons rfl (.nil)))) ?_
  · exact ⟨by dsimp only; omega, by dsimp only; omega, .refl _ _ _, M0⟩
  rintro ⟨i, j, ys⟩ w6 ⟨hai, hjb, hrl, M6⟩
  dsimp only at hai hjb hrl M6
  refine WC.sub (env' := [(0, .slice (some ⟨g, 0, none⟩) n c), (6, .int .i64 (i : Int)), (7, .int .i64 (j : Int))]) (.cons rfl (.cons rfl (.cons rfl (.nil)))) ?_
  refine WC.seq ?_
  refine WC.seq ?_
  have hyl := hrl.len
  refine WC.region ?_
  refine qA ?_
  refine qA ?_
  refine WL.ex rfl rfl rfl (Ex.lss rfl rfl) ?_
  refine qE ?_
  refine WC.cond_dec rfl (fun hc13 => ?_) (fun hc13 => ?_)
  · skip
    refine WC.skip ?_
    refine WX.next ?_
    refine WC.block ?_
    refine WC.seq ?_
    refine WC.draw (Keep nof w6.drew) [13, 15] (.one 0 0 (.one 1 0 (.one 2 0 (.one 3 0 (.one 4 0 (.one 5 0 (.one 6 0 (.one 8 0 (.one 9 0 (.one 10 0 (.one 7 1 (.one 11 1 (.one 12 0 (.one 13 2 (.one 14 0 (.one 15 2 .nil)))))))))))))))) mixed (by kernel_rfl) (by kernel_rfl) (by kernel_rfl) (HQ.then_ (HQ.block (HQ.then_ (HQ.block HQ.body)))) ?_
    obtain ⟨w10, hw10⟩ : ∃ v, v = w6.drew := ⟨_, rfl⟩
    have D10 : Keep nof w6 w10 := by rw [hw10]; exact Keep.drew _ _
    have M10 := M6.step D10
    rw [← hw10]; clear hw10
    refine qC ?_
    refine qC ?_
    refine qC ?_
    refine qC ?_
    refine qC ?_
    refine qC ?_
    refine WP.p rfl rfl rfl rfl (fun _ => Ex.ia Tryd.underlying67 sz23 rfl rfl ⟨by omega, by omega⟩) ?_
    refine qC ?_
    refine qC ?_
    refine WP.p rfl rfl rfl rfl (fun _ => Ex.ia Tryd.underlying67 sz23 rfl rfl ⟨by omega, by omega⟩) ?_
    refine WP.q (Keep.refl _ _) rfl rfl rfl rfl (fun w' hS => Ex.load ty23 rfl (hS.cell (ub_rd (M10.get (i := 0) rfl) (k := j) (by omega) (by omega)) (fun f => f))) ?_
    refine WP.q (Keep.refl _ _) rfl rfl rfl rfl (fun w' hS => Ex.load ty23 rfl (hS.cell (ub_rd (M10.get (i := 0) rfl) (k := i) (by omega) (by omega)) (fun f => f))) ?_
    refine WP.p rfl rfl rfl rfl (fun _ => Ex.ia Tryd.underlying67 sz23 rfl rfl ⟨by omega, by omega⟩) ?_
    refine WP.a0 rfl rfl rfl (Ac.stU M10 ty23 rfl rfl (v := gv ys j) (i := 0) rfl (k := i) (by omega) (by (try simp only [List.length_set, swp_len]); omega)) ?_; rintro v24 w24 ⟨K24, M24⟩; refine .inl ⟨rfl, Keep nof w24, ?_⟩
    try dsimp only [List.set] at M24
    refine WP.p rfl rfl rfl rfl (fun _ => Ex.ia Tryd.underlying67 sz23 rfl rfl ⟨by omega, by omega⟩) ?_
    refine WP.a0 rfl rfl rfl (Ac.stU M24 ty23 rfl rfl (v := gv ys i) (i := 0) rfl (k := j) (by omega) (by (try simp only [List.length_set, swp_len]); omega)) ?_; rintro v26 w26 ⟨K26, M26⟩; refine .inl ⟨rfl, Keep nof w26, ?_⟩
    try dsimp only [List.set] at M26
    refine WP.nil ?_
    refine WX.next ?_
    refine qD ?_
    refine qA ?_
    refine WL.ex rfl rfl rfl (Ex.add rfl rfl (c := ((i + 1 : Nat) : Int)) (wrapN (by omega) (by omega))) ?_
    refine qB ?_
    refine qE ?_
    refine WC.region ?_
    refine qA ?_
    refine WL.ex rfl rfl rfl (Ex.sub rfl rfl (c := ((j - 1 : Nat) : Int)) (wrapN (by omega) (by omega))) ?_
    refine qB ?_
    refine WL.nil ?_
    refine WX.normal_block (?_)
    refine WX.again (((i + 1, j - 1, swp ys i j) : Nat × Nat × List Nat)) ?_ ?_ (.cons rfl (.cons rfl (.cons rfl (.nil))))
    · dsimp only; omega
    · exact ⟨by dsimp only; omega, by dsimp only; omega, hrl.trans (.swp (by omega) (by omega) (by omega) (by omega) (by omega)), M26⟩
  · skip
    refine WC.exit ?_
    refine WX.exit_then (WX.exit_then (WX.exit_block (?_)))
    refine WX.end0 rfl ?_
    subst hFF
    exact ⟨ys, hrl, M6.toTurn⟩

end Go.Proofs.YtchmjpdkonfifaaDoor

set_option linter.unusedVariables false
set_option linter.unusedSimpArgs false
namespace Go.Proofs.YtchmjpdkonfifaaDoor
open Go.Sx Go.RowKit
attribute [local irreducible] Ac Ex WL WC WX WP Gives

/- slices.partitionOrdered[uint64] -/
theorem part_ok (w : World) (g c n a b pv : Nat) (xs : List Nat) (tl : List Value) (hR : (ub g xs tl 23).sat w) (hn : xs.length = n) (ha : a ≤ pv) (hpb : pv < b) (hb : b ≤ n) (hc : n ≤ 1000000) :
    Gives Tryd.prog 127 #[.slice (some ⟨g, 0, none⟩) n c, .int .i64 (a : Int), .int .i64 (b : Int), .int .i64 (pv : Int)] w fun u w1 => ∃ ys m r, u = .tuple #[.int .i64 (m : Nat), .bool r] ∧ Rel a b xs ys ∧ Prt a b m ys ∧ Turn w w1 (ub g xs tl 23) (ub g ys tl 23) := by
  obtain ⟨FF, hFF⟩ : ∃ FF : Nat → Prop, FF = (fun b => b ∈ (ub g xs tl 23).fp) := ⟨_, rfl⟩
  have M0 : Mem w w FF [ub g xs tl 23] := by rw [hFF]; exact Mem.begin hR
  refine Gives.enter (n := 168) Tryd.func127 rfl Tryd.ntmps127 rfl (env := [(0, .slice (some ⟨g, 0, none⟩) n c), (1, .int .i64 (a : Int)), (2, .int .i64 (b : Int)), (3, .int .i64 (pv : Int))]) rfl ?_
  refine qD ?_
  refine qB ?_
  refine qB ?_
  refine qE ?_
  refine WC.seq ?_
  refine WC.draw (Keep nof w.drew) [13, 15] (.one 0 0 (.one 1 0 (.one 2 0 (.one 3 0 (.one 4 0 (.one 5 0 (.one 6 0 (.one 8 0 (.one 9 0 (.one 10 0 (.one 7 1 (.one 11 1 (.one 12 0 (.one 13 2 (.one 14 0 (.one 15 2 .nil)))))))))))))))) mixed (by kernel_rfl) (by kernel_rfl) (by kernel_rfl) (HQ.then_ HQ.body) ?_
  obtain ⟨w3, hw3⟩ : ∃ v, v = w.drew := ⟨_, rfl⟩
  have D3 : Keep nof w w3 := by rw [hw3]; exact Keep.drew _ _
  have M3 := M0.step D3
  rw [← hw3]; clear hw3
  refine qC ?_
  refine qC ?_
  refine qC ?_
  refine qC ?_
  refine qC ?_
  refine qC ?_
  refine WP.p rfl rfl rfl rfl (fun _ => Ex.ia Tryd.underlying67 sz23 rfl rfl ⟨by omega, by omega⟩) ?_
  refine qC ?_
  refine qC ?_
  refine WP.p rfl rfl rfl rfl (fun _ => Ex.ia Tryd.underlying67 sz23 rfl rfl ⟨by omega, by omega⟩) ?_
  refine WP.q (Keep.refl _ _) rfl rfl rfl rfl (fun w' hS => Ex.load ty23 rfl (hS.cell (ub_rd (M3.get (i := 0) rfl) (k := pv) (by omega) (by omega)) (fun f => f))) ?_
  refine WP.q (Keep.refl _ _) rfl rfl rfl rfl (fun w' hS => Ex.load ty23 rfl (hS.cell (ub_rd (M3.get (i := 0) rfl) (k := a) (by omega) (by omega)) (fun f => f))) ?_
  refine WP.p rfl rfl rfl rfl (fun _ => Ex.ia Tryd.underlying67 sz23 rfl rfl ⟨by omega, by omega⟩) ?_
  refine WP.a0 rfl rfl rfl (Ac.stU M3 ty23 rfl rfl (v := gv xs (pv)) (i := 0) rfl (k := a) (by omega) (by (try simp only [List.length_set, swp_len]); omega)) ?_; rintro v17 w17 ⟨K17, M17⟩; refine .inl ⟨rfl, Keep nof w17, ?_⟩
  try dsimp only [List.set] at M17
  refine WP.p rfl rfl rfl rfl (fun _ => Ex.ia Tryd.underlying67 sz23 rfl rfl ⟨by omega, by omega⟩) ?_
  refine WP.a0 rfl rfl rfl (Ac.stU M17 ty23 rfl rfl (v := gv xs (a)) (i := 0) rfl (k := pv) (by omega) (by (try simp only [List.length_set, swp_len]); omega)) ?_; rintro v19 w19 ⟨K19, M19⟩; refine .inl ⟨rfl, Keep nof w19, ?_⟩
  try dsimp only [List.set] at M19
  refine WP.nil ?_
  refine WX.next ?_
  refine WC.seq ?_
  have hse : (xs.set a (gv xs pv)).set pv (gv xs a) = swp xs a pv := rfl
  rw [hse] at M19
  obtain ⟨ys, hys⟩ : ∃ ys, ys = swp xs a pv := ⟨_, rfl⟩
  rw [← hys] at M19
  have hrl : Rel a b xs ys := by rw [hys]; exact .swp (by omega) (by omega) (by omega) (by omega) (by omega)
  have hyl := hrl.len
  obtain ⟨j, hj⟩ : ∃ j, j = b - 1 := ⟨_, rfl⟩
  refine WC.region ?_
  refine qA ?_
  refine WL.ex rfl rfl rfl (Ex.add rfl rfl (c := ((a + 1 : Nat) : Int)) (wrapN (by omega) (by omega))) ?_
  refine qA ?_
  refine WL.ex rfl rfl rfl (Ex.sub rfl rfl (c := ((j : Nat) : Int)) (wrapN (by omega) (by omega))) ?_
  refine qB ?_
  refine qB ?_
  refine qE ?_
  refine WC.cut (σ := Nat) (fun i => [(0, .slice (some ⟨g, 0, none⟩) n c), (1, .int .i64 (a : Int)), (10, .int .i64 (i : Int)), (11, .int .i64 ((j : Nat) : Int))]) (fun i wr => Pt a b i j ys ∧ (i ≤ j → gv ys a ≤ gv ys i) ∧ Mem w wr FF [ub g ys tl 23]) ?_ ?_
  ·
    refine WC.block ?_
    refine WC.loop (σ := Nat) (fun i => [(0, .slice (some ⟨g, 0, none⟩) n c), (1, .int .i64 (a : Int)), (10, .int .i64 (i : Int)), (11, .int .i64 (j : Int))]) (fun i wr => Pt a b i j ys ∧ Mem w wr FF [ub g ys tl 23]) (fun i => j + 1 - i) (a + 1) ?_ (.cons rfl (.cons rfl (.cons rfl (.cons rfl (.nil))))) ?_
    · exact ⟨by rw [hj]; exact .start _ (by omega), M19⟩
    rintro i w26 ⟨hpt, M26⟩
    refine WC.seq ?_
    refine WC.seq ?_
    refine WC.draw (Keep nof w26.drew) [12] (.one 0 0 (.one 1 0 (.one 2 0 (.one 3 0 (.one 4 0 (.one 5 0 (.one 6 0 (.one 8 0 (.one 9 0 (.one 10 0 (.one 7 1 (.one 11 1 (.one 12 2 (.one 13 0 .nil)))))))))))))) mixed (by kernel_rfl) (by kernel_rfl) (by kernel_rfl) (HQ.then_ (HQ.then_ (HQ.then_ (HQ.block (HQ.then_ HQ.body))))) ?_
    obtain ⟨w27, hw27⟩ : ∃ v, v = w26.drew := ⟨_, rfl⟩
    have D27 : Keep nof w26 w27 := by rw [hw27]; exact Keep.drew _ _
    have M27 := M26.step D27
    rw [← hw27]; clear hw27
    have hp1 := hpt.lo
    have hp2 := hpt.hi
    have hp3 := hpt.ij
    refine qC ?_
    refine qC ?_
    refine WP.p rfl rfl rfl rfl (fun _ => Ex.leq rfl rfl) ?_
    refine qC ?_
    by_cases hij : (i : Int) ≤ (j : Int)
    · rw [decide_eq_true hij]
      refine WP.py rfl rfl rfl rfl rfl rfl (fun _ => Ex.mv rfl) ?_
      refine WP.py rfl rfl rfl rfl rfl rfl (fun _ => Ex.mv rfl) ?_
      refine WP.py rfl rfl rfl rfl rfl rfl (fun _ => Ex.ia Tryd.underlying67 sz23 rfl rfl ⟨by omega, by omega⟩) ?_
      refine WP.py rfl rfl rfl rfl rfl rfl (fun _ => Ex.mv rfl) ?_
      refine WP.py rfl rfl rfl rfl rfl rfl (fun _ => Ex.mv rfl) ?_
      refine WP.py rfl rfl rfl rfl rfl rfl (fun _ => Ex.ia Tryd.underlying67 sz23 rfl rfl ⟨by omega, by omega⟩) ?_
      refine WP.qy (Keep.refl _ _) rfl rfl rfl rfl rfl rfl (fun w' hS => Ex.load ty23 rfl (hS.cell (ub_rd (M27.get (i := 0) rfl) (k := i) (by omega) (by omega)) (fun f => f))) ?_
      refine WP.qy (Keep.refl _ _) rfl rfl rfl rfl rfl rfl (fun w' hS => Ex.load ty23 rfl (hS.cell (ub_rd (M27.get (i := 0) rfl) (k := a) (by omega) (by omega)) (fun f => f))) ?_
      refine WP.ay rfl rfl rfl rfl rfl rfl (Ac.call rfl Tryd.func125 nm125 rfl (less_ok w27 (gv ys (i)) (gv ys (a)))) ?_; rintro v40 w40 ⟨rfl, K40⟩; refine .inl ⟨rfl, Keep nof w40, ?_⟩
      have M40 := M27.step K40
      refine WP.p rfl rfl rfl rfl (fun _ => Ex.pickT rfl rfl) ?_
      refine WP.nil ?_
      refine WX.next ?_
      refine WC.cond_dec rfl (fun h43 => ?_) (fun h43 => ?_)
      · skip
        refine WC.skip ?_
        refine WX.next ?_
        refine WC.block ?_
        refine WC.region ?_
        refine qA ?_
        refine WL.ex rfl rfl rfl (Ex.add rfl rfl (c := ((i + 1 : Nat) : Int)) (wrapN (by omega) (by omega))) ?_
        refine qB ?_
        refine WL.nil ?_
        refine WX.normal_block (?_)
        refine WX.again (i + 1) ?_ ?_ (.cons rfl (.cons rfl (.cons rfl (.cons rfl (.nil)))))
        · omega
        · exact ⟨hpt.incI (by omega) h43, M40⟩
      · skip
        refine WC.exit ?_
        refine WX.exit_then (WX.exit_then (WX.exit_block (?_)))
        refine WX.join (i) ?_ (.cons rfl (.cons rfl (.cons rfl (.cons rfl (.nil)))))
        exact ⟨hpt, fun _ => by omega, M40⟩
    · rw [decide_eq_false hij]
      refine WP.no rfl rfl rfl rfl rfl rfl rfl ?_
      refine WP.no rfl rfl rfl rfl rfl rfl rfl ?_
      refine WP.no rfl rfl rfl rfl rfl rfl rfl ?_
      refine WP.no rfl rfl rfl rfl rfl rfl rfl ?_
      refine WP.no rfl rfl rfl rfl rfl rfl rfl ?_
      refine WP.no rfl rfl rfl rfl rfl rfl rfl ?_
      refine WP.no1 (Keep.refl _ _) rfl rfl rfl rfl rfl rfl rfl ?_
      refine WP.no1 (Keep.refl _ _) rfl rfl rfl rfl rfl rfl rfl ?_
      refine WP.no2 rfl rfl rfl rfl rfl rfl rfl ?_
      refine WP.p rfl rfl rfl rfl (fun _ => Ex.pickF rfl rfl) ?_
      refine WP.nil ?_
      refine WX.next ?_
      refine WC.no rfl ?_
      refine WC.exit ?_
      refine WX.exit_then (WX.exit_then (WX.exit_block (?_)))
      refine WX.join (i) ?_ (.cons rfl (.cons rfl (.cons rfl (.cons rfl (.nil)))))
      exact ⟨hpt, fun _ => by omega, M27⟩
  · rintro i w46 ⟨hpt, hge, M46⟩
    refine WC.cut (σ := Nat) (fun j => [(0, .slice (some ⟨g, 0, none⟩) n c), (1, .int .i64 (a : Int)), (10, .int .i64 (i : Int)), (11, .int .i64 (j : Int))]) (fun j wr => Pt a b i j ys ∧ (i ≤ j → gv ys a ≤ gv ys i) ∧ (i ≤ j → gv ys j < gv ys a) ∧ Mem w wr FF [ub g ys tl 23]) ?_ ?_
    ·
      refine WC.block ?_
      refine WC.loop (σ := Nat) (fun j => [(0, .slice (some ⟨g, 0, none⟩) n c), (1, .int .i64 (a : Int)), (10, .int .i64 (i : Int)), (11, .int .i64 (j : Int))]) (fun j wr => Pt a b i j ys ∧ (i ≤ j → gv ys a ≤ gv ys i) ∧ Mem w wr FF [ub g ys tl 23]) (fun j => j) (j) ?_ (.cons rfl (.cons rfl (.cons rfl (.cons rfl (.nil))))) ?_
      · exact ⟨hpt, hge, M46⟩
      rintro j w47 ⟨hpt, hge, M47⟩
      refine WC.seq ?_
      refine WC.seq ?_
      refine WC.draw (Keep nof w47.drew) [12] (.one 0 0 (.one 1 0 (.one 2 0 (.one 3 0 (.one 4 0 (.one 5 0 (.one 6 0 (.one 8 0 (.one 9 0 (.one 10 0 (.one 7 1 (.one 11 1 (.one 12 2 (.one 13 0 (.one 14 0 .nil))))))))))))))) mixed (by kernel_rfl) (by kernel_rfl) (by kernel_rfl) (HQ.then_ (HQ.then_ (HQ.then_ (HQ.block (HQ.then_ HQ.body))))) ?_
      obtain ⟨w48, hw48⟩ : ∃ v, v = w47.drew := ⟨_, rfl⟩
      have D48 : Keep nof w47 w48 := by rw [hw48]; exact Keep.drew _ _
      have M48 := M47.step D48
      rw [← hw48]; clear hw48
      have hp1 := hpt.lo
      have hp2 := hpt.hi
      have hp3 := hpt.ij
      refine qC ?_
      refine qC ?_
      refine WP.p rfl rfl rfl rfl (fun _ => Ex.leq rfl rfl) ?_
      refine qC ?_
      by_cases hij : (i : Int) ≤ (j : Int)
      · rw [decide_eq_true hij]
        refine WP.py rfl rfl rfl rfl rfl rfl (fun _ => Ex.mv rfl) ?_
        refine WP.py rfl rfl rfl rfl rfl rfl (fun _ => Ex.mv rfl) ?_
        refine WP.py rfl rfl rfl rfl rfl rfl (fun _ => Ex.ia Tryd.underlying67 sz23 rfl rfl ⟨by omega, by omega⟩) ?_
        refine WP.py rfl rfl rfl rfl rfl rfl (fun _ => Ex.mv rfl) ?_
        refine WP.py rfl rfl rfl rfl rfl rfl (fun _ => Ex.mv rfl) ?_
        refine WP.py rfl rfl rfl rfl rfl rfl (fun _ => Ex.ia Tryd.underlying67 sz23 rfl rfl ⟨by omega, by omega⟩) ?_
        refine WP.qy (Keep.refl _ _) rfl rfl rfl rfl rfl rfl (fun w' hS => Ex.load ty23 rfl (hS.cell (ub_rd (M48.get (i := 0) rfl) (k := j) (by omega) (by omega)) (fun f => f))) ?_
        refine WP.qy (Keep.refl _ _) rfl rfl rfl rfl rfl rfl (fun w' hS => Ex.load ty23 rfl (hS.cell (ub_rd (M48.get (i := 0) rfl) (k := a) (by omega) (by omega)) (fun f => f))) ?_
        refine WP.ay rfl rfl rfl rfl rfl rfl (Ac.call rfl Tryd.func125 nm125 rfl (less_ok w48 (gv ys (j)) (gv ys (a)))) ?_; rintro v61 w61 ⟨rfl, K61⟩; refine .inl ⟨rfl, Keep nof w61, ?_⟩
        have M61 := M48.step K61
        refine WP.py rfl rfl rfl rfl rfl rfl (fun _ => Ex.not rfl) ?_
        refine WP.p rfl rfl rfl rfl (fun _ => Ex.pickT rfl rfl) ?_
        refine WP.nil ?_
        refine WX.next ?_
        refine WC.cond rfl (fun h60 => ?_) (fun h60 => ?_)
        · have h60b : ¬ gv ys j < gv ys a := by simpa using h60
          refine WC.skip ?_
          refine WX.next ?_
          refine WC.block ?_
          refine WC.region ?_
          refine qA ?_
          refine WL.ex rfl rfl rfl (Ex.sub rfl rfl (c := ((j - 1 : Nat) : Int)) (wrapN (by omega) (by omega))) ?_
          refine qB ?_
          refine WL.nil ?_
          refine WX.normal_block (?_)
          refine WX.again (j - 1) ?_ ?_ (.cons rfl (.cons rfl (.cons rfl (.cons rfl (.nil)))))
          · omega
          · exact ⟨hpt.decJ (by omega) (by omega), fun h => hge (by omega), M61⟩
        · have h60b : ¬ i ≤ j ∨ gv ys j < gv ys a := by first | exact .inl (by omega) | exact .inr (by simpa using h60)
          refine WC.exit ?_
          refine WX.exit_then (WX.exit_then (WX.exit_block (?_)))
          refine WX.join (j) ?_ (.cons rfl (.cons rfl (.cons rfl (.cons rfl (.nil)))))
          exact ⟨hpt, hge, fun _ => by omega, M61⟩
      · rw [decide_eq_false hij]
        refine WP.no rfl rfl rfl rfl rfl rfl rfl ?_
        refine WP.no rfl rfl rfl rfl rfl rfl rfl ?_
        refine WP.no rfl rfl rfl rfl rfl rfl rfl ?_
        refine WP.no rfl rfl rfl rfl rfl rfl rfl ?_
        refine WP.no rfl rfl rfl rfl rfl rfl rfl ?_
        refine WP.no rfl rfl rfl rfl rfl rfl rfl ?_
        refine WP.no1 (Keep.refl _ _) rfl rfl rfl rfl rfl rfl rfl ?_
        refine WP.no1 (Keep.refl _ _) rfl rfl rfl rfl rfl rfl rfl ?_
        refine WP.no2 rfl rfl rfl rfl rfl rfl rfl ?_
        refine WP.no rfl rfl rfl rfl rfl rfl rfl ?_
        refine WP.p rfl rfl rfl rfl (fun _ => Ex.pickF rfl rfl) ?_
        refine WP.nil ?_
        refine WX.next ?_
        refine WC.no rfl ?_
        refine WC.exit ?_
        refine WX.exit_then (WX.exit_then (WX.exit_block (?_)))
        refine WX.join (j) ?_ (.cons rfl (.cons rfl (.cons rfl (.cons rfl (.nil)))))
        exact ⟨hpt, hge, fun _ => by omega, M48⟩
    · rintro j w68 ⟨hpt, hge, hlt, M68⟩
      refine WC.seq ?_
      refine qD ?_
      refine qA ?_
      refine qA ?_
      refine WL.ex rfl rfl rfl (Ex.gtr rfl rfl) ?_
      refine qE ?_
      refine WC.cond_dec rfl (fun h65 => ?_) (fun h65 => ?_)
      · have hp1 := hpt.lo
        have hp2 := hpt.hi
        have hp3 := hpt.ij
        refine WC.seq ?_
        refine WC.draw (Keep nof w68.drew) [13, 15] (.one 0 0 (.one 1 0 (.one 2 0 (.one 3 0 (.one 4 0 (.one 5 0 (.one 6 0 (.one 8 0 (.one 9 0 (.one 10 0 (.one 7 1 (.one 11 1 (.one 12 0 (.one 13 2 (.one 14 0 (.one 15 2 .nil)))))))))))))))) mixed (by kernel_rfl) (by kernel_rfl) (by kernel_rfl) (HQ.then_ (HQ.then_ HQ.body)) ?_
        obtain ⟨w72, hw72⟩ : ∃ v, v = w68.drew := ⟨_, rfl⟩
        have D72 : Keep nof w68 w72 := by rw [hw72]; exact Keep.drew _ _
        have M72 := M68.step D72
        rw [← hw72]; clear hw72
        refine qC ?_
        refine qC ?_
        refine qC ?_
        refine qC ?_
        refine qC ?_
        refine qC ?_
        refine WP.p rfl rfl rfl rfl (fun _ => Ex.ia Tryd.underlying67 sz23 rfl rfl ⟨by omega, by omega⟩) ?_
        refine qC ?_
        refine qC ?_
        refine WP.p rfl rfl rfl rfl (fun _ => Ex.ia Tryd.underlying67 sz23 rfl rfl ⟨by omega, by omega⟩) ?_
        refine WP.q (Keep.refl _ _) rfl rfl rfl rfl (fun w' hS => Ex.load ty23 rfl (hS.cell (ub_rd (M72.get (i := 0) rfl) (k := a) (by omega) (by omega)) (fun f => f))) ?_
        refine WP.q (Keep.refl _ _) rfl rfl rfl rfl (fun w' hS => Ex.load ty23 rfl (hS.cell (ub_rd (M72.get (i := 0) rfl) (k := j) (by omega) (by omega)) (fun f => f))) ?_
        refine WP.p rfl rfl rfl rfl (fun _ => Ex.ia Tryd.underlying67 sz23 rfl rfl ⟨by omega, by omega⟩) ?_
        refine WP.a0 rfl rfl rfl (Ac.stU M72 ty23 rfl rfl (v := gv ys (a)) (i := 0) rfl (k := j) (by omega) (by (try simp only [List.length_set, swp_len]); omega)) ?_; rintro v86 w86 ⟨K86, M86⟩; refine .inl ⟨rfl, Keep nof w86, ?_⟩
        try dsimp only [List.set] at M86
        refine WP.p rfl rfl rfl rfl (fun _ => Ex.ia Tryd.underlying67 sz23 rfl rfl ⟨by omega, by omega⟩) ?_
        refine WP.a0 rfl rfl rfl (Ac.stU M86 ty23 rfl rfl (v := gv ys (j)) (i := 0) rfl (k := a) (by omega) (by (try simp only [List.length_set, swp_len]); omega)) ?_; rintro v88 w88 ⟨K88, M88⟩; refine .inl ⟨rfl, Keep nof w88, ?_⟩
        try dsimp only [List.set] at M88
        refine WP.nil ?_
        refine WX.next ?_
        refine qD ?_
        refine qA ?_
        refine qB ?_
        refine qB ?_
        refine qE ?_
        refine WC.ret ?_
        refine WX.ret_then (?_)
        refine WX.ret2 rfl rfl rfl ?_
        subst hFF
        exact ⟨_, j, _, rfl, hrl.trans (.swp (by omega) (by omega) (by omega) (by omega) (by omega)), hpt.done (by omega) (by omega), M88.toTurn⟩
      · have hp1 := hpt.lo
        have hp2 := hpt.hi
        have hp3 := hpt.ij
        have hsw := hpt.swap (by omega) (by omega) (hge (by omega)) (hlt (by omega))
        have hij2 := hsw.1
        refine WC.skip ?_
        refine WX.next ?_
        refine WC.seq ?_
        refine WC.draw (Keep nof w68.drew) [13, 15] (.one 0 0 (.one 1 0 (.one 2 0 (.one 3 0 (.one 4 0 (.one 5 0 (.one 6 0 (.one 8 0 (.one 9 0 (.one 10 0 (.one 7 1 (.one 11 1 (.one 12 0 (.one 13 2 (.one 14 0 (.one 15 2 .nil)))))))))))))))) mixed (by kernel_rfl) (by kernel_rfl) (by kernel_rfl) (HQ.then_ HQ.body) ?_
        obtain ⟨w92, hw92⟩ : ∃ v, v = w68.drew := ⟨_, rfl⟩
        have D92 : Keep nof w68 w92 := by rw [hw92]; exact Keep.drew _ _
        have M92 := M68.step D92
        rw [← hw92]; clear hw92
        refine qC ?_
        refine qC ?_
        refine qC ?_
        refine qC ?_
        refine qC ?_
        refine qC ?_
        refine WP.p rfl rfl rfl rfl (fun _ => Ex.ia Tryd.underlying67 sz23 rfl rfl ⟨by omega, by omega⟩) ?_
        refine qC ?_
        refine qC ?_
        refine WP.p rfl rfl rfl rfl (fun _ => Ex.ia Tryd.underlying67 sz23 rfl rfl ⟨by omega, by omega⟩) ?_
        refine WP.q (Keep.refl _ _) rfl rfl rfl rfl (fun w' hS => Ex.load ty23 rfl (hS.cell (ub_rd (M92.get (i := 0) rfl) (k := j) (by omega) (by omega)) (fun f => f))) ?_
        refine WP.q (Keep.refl _ _) rfl rfl rfl rfl (fun w' hS => Ex.load ty23 rfl (hS.cell (ub_rd (M92.get (i := 0) rfl) (k := i) (by omega) (by omega)) (fun f => f))) ?_
        refine WP.p rfl rfl rfl rfl (fun _ => Ex.ia Tryd.underlying67 sz23 rfl rfl ⟨by omega, by omega⟩) ?_
        refine WP.a0 rfl rfl rfl (Ac.stU M92 ty23 rfl rfl (v := gv ys (j)) (i := 0) rfl (k := i) (by omega) (by (try simp only [List.length_set, swp_len]); omega)) ?_; rintro v106 w106 ⟨K106, M106⟩; refine .inl ⟨rfl, Keep nof w106, ?_⟩
        try dsimp only [List.set] at M106
        refine WP.p rfl rfl rfl rfl (fun _ => Ex.ia Tryd.underlying67 sz23 rfl rfl ⟨by omega, by omega⟩) ?_
        refine WP.a0 rfl rfl rfl (Ac.stU M106 ty23 rfl rfl (v := gv ys (i)) (i := 0) rfl (k := j) (by omega) (by (try simp only [List.length_set, swp_len]); omega)) ?_; rintro v108 w108 ⟨K108, M108⟩; refine .inl ⟨rfl, Keep nof w108, ?_⟩
        try dsimp only [List.set] at M108
        refine WP.nil ?_
        refine WX.next ?_
        refine qD ?_
        refine qA ?_
        refine WL.ex rfl rfl rfl (Ex.add rfl rfl (c := ((i + 1 : Nat) : Int)) (wrapN (by omega) (by omega))) ?_
        refine qB ?_
        refine qE ?_
        refine qD ?_
        refine qA ?_
        refine WL.ex rfl rfl rfl (Ex.sub rfl rfl (c := ((j - 1 : Nat) : Int)) (wrapN (by omega) (by omega))) ?_
        refine qB ?_
        refine qE ?_
        refine WC.seq ?_
        refine WC.block ?_
        refine WC.loop (σ := Nat × Nat × List Nat) (fun s => [(0, .slice (some ⟨g, 0, none⟩) n c), (1, .int .i64 (a : Int)), (10, .int .i64 (s.1 : Int)), (11, .int .i64 (s.2.1 : Int))]) (fun s wr => Pt a b s.1 s.2.1 s.2.2 ∧ Rel a b xs s.2.2 ∧ Mem w wr FF [ub g s.2.2 tl 23]) (fun s => s.2.1 + 1 - s.1) (((i + 1, j - 1, swp ys i j) : Nat × Nat × List Nat)) ?_ (.cons rfl (.cons rfl (.cons rfl (.cons rfl (.nil))))) ?_
        · exact ⟨hsw.2, hrl.trans (.swp (by omega) (by omega) (by omega) (by omega) (by omega)), M108⟩
        rintro ⟨i, j, ys⟩ w115 ⟨hpt, hrl, M115⟩
        dsimp only at hpt hrl M115
        obtain ⟨i0, j0, hi0, hj0⟩ : ∃ i0 j0, i0 = i ∧ j0 = j := ⟨_, _, rfl, rfl⟩
        have hi0l : i0 ≤ i := by omega
        have hj0l : j ≤ j0 := by omega
        refine WC.sub (env' := [(0, .slice (some ⟨g, 0, none⟩) n c), (1, .int .i64 (a : Int)), (10, .int .i64 (i : Int)), (11, .int .i64 (j : Int))]) (.cons rfl (.cons rfl (.cons rfl (.cons rfl (.nil))))) ?_
        refine WC.block ?_
        refine WC.cut (σ := Nat) (fun i => [(0, .slice (some ⟨g, 0, none⟩) n c), (1, .int .i64 (a : Int)), (10, .int .i64 (i : Int)), (11, .int .i64 (j : Int))]) (fun i wr => i0 ≤ i ∧ Pt a b i j ys ∧ (i ≤ j → gv ys a ≤ gv ys i) ∧ Mem w wr FF [ub g ys tl 23]) ?_ ?_
        ·
          refine WC.block ?_
          refine WC.loop (σ := Nat) (fun i => [(0, .slice (some ⟨g, 0, none⟩) n c), (1, .int .i64 (a : Int)), (10, .int .i64 (i : Int)), (11, .int .i64 (j : Int))]) (fun i wr => i0 ≤ i ∧ Pt a b i j ys ∧ Mem w wr FF [ub g ys tl 23]) (fun i => j + 1 - i) (i) ?_ (.cons rfl (.cons rfl (.cons rfl (.cons rfl (.nil))))) ?_
          · exact ⟨hi0l, hpt, M115⟩
          rintro i w116 ⟨hi0l, hpt, M116⟩
          refine WC.seq ?_
          refine WC.seq ?_
          refine WC.draw (Keep nof w116.drew) [12] (.one 0 0 (.one 1 0 (.one 2 0 (.one 3 0 (.one 4 0 (.one 5 0 (.one 6 0 (.one 8 0 (.one 9 0 (.one 10 0 (.one 7 1 (.one 11 1 (.one 12 2 (.one 13 0 .nil)))))))))))))) mixed (by kernel_rfl) (by kernel_rfl) (by kernel_rfl) (HQ.then_ (HQ.then_ (HQ.then_ (HQ.block (HQ.then_ (HQ.block (HQ.then_ (HQ.block (HQ.then_ HQ.body))))))))) ?_
          obtain ⟨w117, hw117⟩ : ∃ v, v = w116.drew := ⟨_, rfl⟩
          have D117 : Keep nof w116 w117 := by rw [hw117]; exact Keep.drew _ _
          have M117 := M116.step D117
          rw [← hw117]; clear hw117
          have hyl := hrl.len
          have hp1 := hpt.lo
          have hp2 := hpt.hi
          have hp3 := hpt.ij
          refine qC ?_
          refine qC ?_
          refine WP.p rfl rfl rfl rfl (fun _ => Ex.leq rfl rfl) ?_
          refine qC ?_
          by_cases hij : (i : Int) ≤ (j : Int)
          · rw [decide_eq_true hij]
            refine WP.py rfl rfl rfl rfl rfl rfl (fun _ => Ex.mv rfl) ?_
            refine WP.py rfl rfl rfl rfl rfl rfl (fun _ => Ex.mv rfl) ?_
            refine WP.py rfl rfl rfl rfl rfl rfl (fun _ => Ex.ia Tryd.underlying67 sz23 rfl rfl ⟨by omega, by omega⟩) ?_
            refine WP.py rfl rfl rfl rfl rfl rfl (fun _ => Ex.mv rfl) ?_
            refine WP.py rfl rfl rfl rfl rfl rfl (fun _ => Ex.mv rfl) ?_
            refine WP.py rfl rfl rfl rfl rfl rfl (fun _ => Ex.ia Tryd.underlying67 sz23 rfl rfl ⟨by omega, by omega⟩) ?_
            refine WP.qy (Keep.refl _ _) rfl rfl rfl rfl rfl rfl (fun w' hS => Ex.load ty23 rfl (hS.cell (ub_rd (M117.get (i := 0) rfl) (k := i) (by omega) (by omega)) (fun f => f))) ?_
            refine WP.qy (Keep.refl _ _) rfl rfl rfl rfl rfl rfl (fun w' hS => Ex.load ty23 rfl (hS.cell (ub_rd (M117.get (i := 0) rfl) (k := a) (by omega) (by omega)) (fun f => f))) ?_
            refine WP.ay rfl rfl rfl rfl rfl rfl (Ac.call rfl Tryd.func125 nm125 rfl (less_ok w117 (gv ys (i)) (gv ys (a)))) ?_; rintro v130 w130 ⟨rfl, K130⟩; refine .inl ⟨rfl, Keep nof w130, ?_⟩
            have M130 := M117.step K130
            refine WP.p rfl rfl rfl rfl (fun _ => Ex.pickT rfl rfl) ?_
            refine WP.nil ?_
            refine WX.next ?_
            refine WC.cond_dec rfl (fun h112 => ?_) (fun h112 => ?_)
            · skip
              refine WC.skip ?_
              refine WX.next ?_
              refine WC.block ?_
              refine WC.region ?_
              refine qA ?_
              refine WL.ex rfl rfl rfl (Ex.add rfl rfl (c := ((i + 1 : Nat) : Int)) (wrapN (by omega) (by omega))) ?_
              refine qB ?_
              refine WL.nil ?_
              refine WX.normal_block (?_)
              refine WX.again (i + 1) ?_ ?_ (.cons rfl (.cons rfl (.cons rfl (.cons rfl (.nil)))))
              · omega
              · exact ⟨by omega, hpt.incI (by omega) h112, M130⟩
            · skip
              refine WC.exit ?_
              refine WX.exit_then (WX.exit_then (WX.exit_block (?_)))
              refine WX.join (i) ?_ (.cons rfl (.cons rfl (.cons rfl (.cons rfl (.nil)))))
              exact ⟨hi0l, hpt, fun _ => by omega, M130⟩
          · rw [decide_eq_false hij]
            refine WP.no rfl rfl rfl rfl rfl rfl rfl ?_
            refine WP.no rfl rfl rfl rfl rfl rfl rfl ?_
            refine WP.no rfl rfl rfl rfl rfl rfl rfl ?_
            refine WP.no rfl rfl rfl rfl rfl rfl rfl ?_
            refine WP.no rfl rfl rfl rfl rfl rfl rfl ?_
            refine WP.no rfl rfl rfl rfl rfl rfl rfl ?_
            refine WP.no1 (Keep.refl _ _) rfl rfl rfl rfl rfl rfl rfl ?_
            refine WP.no1 (Keep.refl _ _) rfl rfl rfl rfl rfl rfl rfl ?_
            refine WP.no2 rfl rfl rfl rfl rfl rfl rfl ?_
            refine WP.p rfl rfl rfl rfl (fun _ => Ex.pickF rfl rfl) ?_
            refine WP.nil ?_
            refine WX.next ?_
            refine WC.no rfl ?_
            refine WC.exit ?_
            refine WX.exit_then (WX.exit_then (WX.exit_block (?_)))
            refine WX.join (i) ?_ (.cons rfl (.cons rfl (.cons rfl (.cons rfl (.nil)))))
            exact ⟨hi0l, hpt, fun _ => by omega, M117⟩
        · rintro i w136 ⟨hi0l, hpt, hge, M136⟩
          refine WC.cut (σ := Nat) (fun j => [(0, .slice (some ⟨g, 0, none⟩) n c), (1, .int .i64 (a : Int)), (10, .int .i64 (i : Int)), (11, .int .i64 (j : Int))]) (fun j wr => j ≤ j0 ∧ Pt a b i j ys ∧ (i ≤ j → gv ys a ≤ gv ys i) ∧ (i ≤ j → gv ys j < gv ys a) ∧ Mem w wr FF [ub g ys tl 23]) ?_ ?_
          ·
            refine WC.block ?_
            refine WC.loop (σ := Nat) (fun j => [(0, .slice (some ⟨g, 0, none⟩) n c), (1, .int .i64 (a : Int)), (10, .int .i64 (i : Int)), (11, .int .i64 (j : Int))]) (fun j wr => j ≤ j0 ∧ Pt a b i j ys ∧ (i ≤ j → gv ys a ≤ gv ys i) ∧ Mem w wr FF [ub g ys tl 23]) (fun j => j) (j) ?_ (.cons rfl (.cons rfl (.cons rfl (.cons rfl (.nil))))) ?_
            · exact ⟨hj0l, hpt, hge, M136⟩
            rintro j w137 ⟨hj0l, hpt, hge, M137⟩
            refine WC.seq ?_
            refine WC.seq ?_
            refine WC.draw (Keep nof w137.drew) [12] (.one 0 0 (.one 1 0 (.one 2 0 (.one 3 0 (.one 4 0 (.one 5 0 (.one 6 0 (.one 8 0 (.one 9 0 (.one 10 0 (.one 7 1 (.one 11 1 (.one 12 2 (.one 13 0 (.one 14 0 .nil))))))))))))))) mixed (by kernel_rfl) (by kernel_rfl) (by kernel_rfl) (HQ.then_ (HQ.then_ (HQ.then_ (HQ.block (HQ.then_ (HQ.block (HQ.then_ (HQ.block (HQ.then_ HQ.body))))))))) ?_
            obtain ⟨w138, hw138⟩ : ∃ v, v = w137.drew := ⟨_, rfl⟩
            have D138 : Keep nof w137 w138 := by rw [hw138]; exact Keep.drew _ _
            have M138 := M137.step D138
            rw [← hw138]; clear hw138
            have hyl := hrl.len
            have hp1 := hpt.lo
            have hp2 := hpt.hi
            have hp3 := hpt.ij
            refine qC ?_
            refine qC ?_
            refine WP.p rfl rfl rfl rfl (fun _ => Ex.leq rfl rfl) ?_
            refine qC ?_
            by_cases hij : (i : Int) ≤ (j : Int)
            · rw [decide_eq_true hij]
              refine WP.py rfl rfl rfl rfl rfl rfl (fun _ => Ex.mv rfl) ?_
              refine WP.py rfl rfl rfl rfl rfl rfl (fun _ => Ex.mv rfl) ?_
              refine WP.py rfl rfl rfl rfl rfl rfl (fun _ => Ex.ia Tryd.underlying67 sz23 rfl rfl ⟨by omega, by omega⟩) ?_
              refine WP.py rfl rfl rfl rfl rfl rfl (fun _ => Ex.mv rfl) ?_
              refine WP.py rfl rfl rfl rfl rfl rfl (fun _ => Ex.mv rfl) ?_
              refine WP.py rfl rfl rfl rfl rfl rfl (fun _ => Ex.ia Tryd.underlying67 sz23 rfl rfl ⟨by omega, by omega⟩) ?_
              refine WP.qy (Keep.refl _ _) rfl rfl rfl rfl rfl rfl (fun w' hS => Ex.load ty23 rfl (hS.cell (ub_rd (M138.get (i := 0) rfl) (k := j) (by omega) (by omega)) (fun f => f))) ?_
              refine WP.qy (Keep.refl _ _) rfl rfl rfl rfl rfl rfl (fun w' hS => Ex.load ty23 rfl (hS.cell (ub_rd (M138.get (i := 0) rfl) (k := a) (by omega) (by omega)) (fun f => f))) ?_
              refine WP.ay rfl rfl rfl rfl rfl rfl (Ac.call rfl Tryd.func125 nm125 rfl (less_ok w138 (gv ys (j)) (gv ys (a)))) ?_; rintro v151 w151 ⟨rfl, K151⟩; refine .inl ⟨rfl, Keep nof w151, ?_⟩
              have M151 := M138.step K151
              refine WP.py rfl rfl rfl rfl rfl rfl (fun _ => Ex.not rfl) ?_
              refine WP.p rfl rfl rfl rfl (fun _ => Ex.pickT rfl rfl) ?_
              refine WP.nil ?_
              refine WX.next ?_
              refine WC.cond rfl (fun h129 => ?_) (fun h129 => ?_)
              · have h129b : ¬ gv ys j < gv ys a := by simpa using h129
                refine WC.skip ?_
                refine WX.next ?_
                refine WC.block ?_
                refine WC.region ?_
                refine qA ?_
                refine WL.ex rfl rfl rfl (Ex.sub rfl rfl (c := ((j - 1 : Nat) : Int)) (wrapN (by omega) (by omega))) ?_
                refine qB ?_
                refine WL.nil ?_
                refine WX.normal_block (?_)
                refine WX.again (j - 1) ?_ ?_ (.cons rfl (.cons rfl (.cons rfl (.cons rfl (.nil)))))
                · omega
                · exact ⟨by omega, hpt.decJ (by omega) (by omega), fun h => hge (by omega), M151⟩
              · have h129b : ¬ i ≤ j ∨ gv ys j < gv ys a := by first | exact .inl (by omega) | exact .inr (by simpa using h129)
                refine WC.exit ?_
                refine WX.exit_then (WX.exit_then (WX.exit_block (?_)))
                refine WX.join (j) ?_ (.cons rfl (.cons rfl (.cons rfl (.cons rfl (.nil)))))
                exact ⟨hj0l, hpt, hge, fun _ => by omega, M151⟩
            · rw [decide_eq_false hij]
              refine WP.no rfl rfl rfl rfl rfl rfl rfl ?_
              refine WP.no rfl rfl rfl rfl rfl rfl rfl ?_
              refine WP.no rfl rfl rfl rfl rfl rfl rfl ?_
              refine WP.no rfl rfl rfl rfl rfl rfl rfl ?_
              refine WP.no rfl rfl rfl rfl rfl rfl rfl ?_
              refine WP.no rfl rfl rfl rfl rfl rfl rfl ?_
              refine WP.no1 (Keep.refl _ _) rfl rfl rfl rfl rfl rfl rfl ?_
              refine WP.no1 (Keep.refl _ _) rfl rfl rfl rfl rfl rfl rfl ?_
              refine WP.no2 rfl rfl rfl rfl rfl rfl rfl ?_
              refine WP.no rfl rfl rfl rfl rfl rfl rfl ?_
              refine WP.p rfl rfl rfl rfl (fun _ => Ex.pickF rfl rfl) ?_
              refine WP.nil ?_
              refine WX.next ?_
              refine WC.no rfl ?_
              refine WC.exit ?_
              refine WX.exit_then (WX.exit_then (WX.exit_block (?_)))
              refine WX.join (j) ?_ (.cons rfl (.cons rfl (.cons rfl (.cons rfl (.nil)))))
              exact ⟨hj0l, hpt, hge, fun _ => by omega, M138⟩
          · rintro j w158 ⟨hj0l, hpt, hge, hlt, M158⟩
            refine WC.seq ?_
            refine qD ?_
            refine qA ?_
            refine qA ?_
            refine WL.ex rfl rfl rfl (Ex.gtr rfl rfl) ?_
            refine qE ?_
            refine WC.cond_dec rfl (fun h134 => ?_) (fun h134 => ?_)
            · have hyl := hrl.len
              have hp1 := hpt.lo
              have hp2 := hpt.hi
              have hp3 := hpt.ij
              refine WC.exit ?_
              refine WX.exit_then (WX.exit_other rfl (WX.exit_then (WX.exit_block (WX.next (?_)))))
              refine WC.seq ?_
              refine WC.draw (Keep nof w158.drew) [13, 15] (.one 0 0 (.one 1 0 (.one 2 0 (.one 3 0 (.one 4 0 (.one 5 0 (.one 6 0 (.one 8 0 (.one 9 0 (.one 10 0 (.one 7 1 (.one 11 1 (.one 12 0 (.one 13 2 (.one 14 0 (.one 15 2 .nil)))))))))))))))) mixed (by kernel_rfl) (by kernel_rfl) (by kernel_rfl) (HQ.then_ HQ.body) ?_
              obtain ⟨w162, hw162⟩ : ∃ v, v = w158.drew := ⟨_, rfl⟩
              have D162 : Keep nof w158 w162 := by rw [hw162]; exact Keep.drew _ _
              have M162 := M158.step D162
              rw [← hw162]; clear hw162
              refine qC ?_
              refine qC ?_
              refine qC ?_
              refine qC ?_
              refine qC ?_
              refine qC ?_
              refine WP.p rfl rfl rfl rfl (fun _ => Ex.ia Tryd.underlying67 sz23 rfl rfl ⟨by omega, by omega⟩) ?_
              refine qC ?_
              refine qC ?_
              refine WP.p rfl rfl rfl rfl (fun _ => Ex.ia Tryd.underlying67 sz23 rfl rfl ⟨by omega, by omega⟩) ?_
              refine WP.q (Keep.refl _ _) rfl rfl rfl rfl (fun w' hS => Ex.load ty23 rfl (hS.cell (ub_rd (M162.get (i := 0) rfl) (k := a) (by omega) (by omega)) (fun f => f))) ?_
              refine WP.q (Keep.refl _ _) rfl rfl rfl rfl (fun w' hS => Ex.load ty23 rfl (hS.cell (ub_rd (M162.get (i := 0) rfl) (k := j) (by omega) (by omega)) (fun f => f))) ?_
              refine WP.p rfl rfl rfl rfl (fun _ => Ex.ia Tryd.underlying67 sz23 rfl rfl ⟨by omega, by omega⟩) ?_
              refine WP.a0 rfl rfl rfl (Ac.stU M162 ty23 rfl rfl (v := gv ys (a)) (i := 0) rfl (k := j) (by omega) (by (try simp only [List.length_set, swp_len]); omega)) ?_; rintro v176 w176 ⟨K176, M176⟩; refine .inl ⟨rfl, Keep nof w176, ?_⟩
              try dsimp only [List.set] at M176
              refine WP.p rfl rfl rfl rfl (fun _ => Ex.ia Tryd.underlying67 sz23 rfl rfl ⟨by omega, by omega⟩) ?_
              refine WP.a0 rfl rfl rfl (Ac.stU M176 ty23 rfl rfl (v := gv ys (j)) (i := 0) rfl (k := a) (by omega) (by (try simp only [List.length_set, swp_len]); omega)) ?_; rintro v178 w178 ⟨K178, M178⟩; refine .inl ⟨rfl, Keep nof w178, ?_⟩
              try dsimp only [List.set] at M178
              refine WP.nil ?_
              refine WX.next ?_
              refine qD ?_
              refine qA ?_
              refine qB ?_
              refine qB ?_
              refine qE ?_
              refine WC.ret ?_
              refine WX.ret2 rfl rfl rfl ?_
              subst hFF
              exact ⟨_, j, _, rfl, hrl.trans (.swp (by omega) (by omega) (by omega) (by omega) (by omega)), hpt.done (by omega) (by omega), M178.toTurn⟩
            · have hyl := hrl.len
              have hp1 := hpt.lo
              have hp2 := hpt.hi
              have hp3 := hpt.ij
              have hsw := hpt.swap (by omega) (by omega) (hge (by omega)) (hlt (by omega))
              have hij2 := hsw.1
              refine WC.skip ?_
              refine WX.next ?_
              refine WC.seq ?_
              refine WC.draw (Keep nof w158.drew) [13, 15] (.one 0 0 (.one 1 0 (.one 2 0 (.one 3 0 (.one 4 0 (.one 5 0 (.one 6 0 (.one 8 0 (.one 9 0 (.one 10 0 (.one 7 1 (.one 11 1 (.one 12 0 (.one 13 2 (.one 14 0 (.one 15 2 .nil)))))))))))))))) mixed (by kernel_rfl) (by kernel_rfl) (by kernel_rfl) (HQ.then_ (HQ.block (HQ.then_ (HQ.block (HQ.then_ HQ.body))))) ?_
              obtain ⟨w182, hw182⟩ : ∃ v, v = w158.drew := ⟨_, rfl⟩
              have D182 : Keep nof w158 w182 := by rw [hw182]; exact Keep.drew _ _
              have M182 := M158.step D182
              rw [← hw182]; clear hw182
              refine qC ?_
              refine qC ?_
              refine qC ?_
              refine qC ?_
              refine qC ?_
              refine qC ?_
              refine WP.p rfl rfl rfl rfl (fun _ => Ex.ia Tryd.underlying67 sz23 rfl rfl ⟨by omega, by omega⟩) ?_
              refine qC ?_
              refine qC ?_
              refine WP.p rfl rfl rfl rfl (fun _ => Ex.ia Tryd.underlying67 sz23 rfl rfl ⟨by omega, by omega⟩) ?_
              refine WP.q (Keep.refl _ _) rfl rfl rfl rfl (fun w' hS => Ex.load ty23 rfl (hS.cell (ub_rd (M182.get (i := 0) rfl) (k := j) (by omega) (by omega)) (fun f => f))) ?_
              refine WP.q (Keep.refl _ _) rfl rfl rfl rfl (fun w' hS => Ex.load ty23 rfl (hS.cell (ub_rd (M182.get (i := 0) rfl) (k := i) (by omega) (by omega)) (fun f => f))) ?_
              refine WP.p rfl rfl rfl rfl (fun _ => Ex.ia Tryd.underlying67 sz23 rfl rfl ⟨by omega, by omega⟩) ?_
              refine WP.a0 rfl rfl rfl (Ac.stU M182 ty23 rfl rfl (v := gv ys (j)) (i := 0) rfl (k := i) (by omega) (by (try simp only [List.length_set, swp_len]); omega)) ?_; rintro v196 w196 ⟨K196, M196⟩; refine .inl ⟨rfl, Keep nof w196, ?_⟩
              try dsimp only [List.set] at M196
              refine WP.p rfl rfl rfl rfl (fun _ => Ex.ia Tryd.underlying67 sz23 rfl rfl ⟨by omega, by omega⟩) ?_
              refine WP.a0 rfl rfl rfl (Ac.stU M196 ty23 rfl rfl (v := gv ys (i)) (i := 0) rfl (k := j) (by omega) (by (try simp only [List.length_set, swp_len]); omega)) ?_; rintro v198 w198 ⟨K198, M198⟩; refine .inl ⟨rfl, Keep nof w198, ?_⟩
              try dsimp only [List.set] at M198
              refine WP.nil ?_
              refine WX.next ?_
              refine qD ?_
              refine qA ?_
              refine WL.ex rfl rfl rfl (Ex.add rfl rfl (c := ((i + 1 : Nat) : Int)) (wrapN (by omega) (by omega))) ?_
              refine qB ?_
              refine qE ?_
              refine WC.region ?_
              refine qA ?_
              refine WL.ex rfl rfl rfl (Ex.sub rfl rfl (c := ((j - 1 : Nat) : Int)) (wrapN (by omega) (by omega))) ?_
              refine qB ?_
              refine WL.nil ?_
              refine WX.normal_block (?_)
              refine WX.again (((i + 1, j - 1, swp ys i j) : Nat × Nat × List Nat)) ?_ ?_ (.cons rfl (.cons rfl (.cons rfl (.cons rfl (.nil)))))
              · dsimp only; omega
              · exact ⟨hsw.2, hrl.trans (.swp (by omega) (by omega) (by omega) (by omega) (by omega)), M198⟩

/- slices.partitionEqualOrdered[uint64] -/
theorem parte_ok (w : World) (g c n a b pv : Nat) (xs : List Nat) (tl : List Value) (hR : (ub g xs tl 23).sat w) (hn : xs.length = n) (ha : a ≤ pv) (hpb : pv < b) (hb : b ≤ n) (hc : n ≤ 1000000) :
    Gives Tryd.prog 126 #[.slice (some ⟨g, 0, none⟩) n c, .int .i64 (a : Int), .int .i64 (b : Int), .int .i64 (pv : Int)] w fun u w1 => ∃ ys m, u = .int .i64 (m : Nat) ∧ a < m ∧ m ≤ b ∧ Rel a b xs ys ∧ (∀ k, a ≤ k → k < m → gv ys k ≤ gv xs pv) ∧ (∀ k, m ≤ k → k < b → gv xs pv < gv ys k) ∧ Turn w w1 (ub g xs tl 23) (ub g ys tl 23) := by
  obtain ⟨FF, hFF⟩ : ∃ FF : Nat → Prop, FF = (fun b => b ∈ (ub g xs tl 23).fp) := ⟨_, rfl⟩
  have M0 : Mem w w FF [ub g xs tl 23] := by rw [hFF]; exact Mem.begin hR
  refine Gives.enter (n := 84) Tryd.func126 rfl Tryd.ntmps126 rfl (env := [(0, .slice (some ⟨g, 0, none⟩) n c), (1, .int .i64 (a : Int)), (2, .int .i64 (b : Int)), (3, .int .i64 (pv : Int))]) rfl ?_
  refine qD ?_
  refine qB ?_
  refine qE ?_
  refine WC.seq ?_
  refine WC.draw (Keep nof w.drew) [13, 15] (.one 0 0 (.one 1 0 (.one 2 0 (.one 3 0 (.one 4 0 (.one 5 0 (.one 6 0 (.one 8 0 (.one 9 0 (.one 10 0 (.one 7 1 (.one 11 1 (.one 12 0 (.one 13 2 (.one 14 0 (.one 15 2 .nil)))))))))))))))) mixed (by kernel_rfl) (by kernel_rfl) (by kernel_rfl) (HQ.then_ HQ.body) ?_
  obtain ⟨w2, hw2⟩ : ∃ v, v = w.drew := ⟨_, rfl⟩
  have D2 : Keep nof w w2 := by rw [hw2]; exact Keep.drew _ _
  have M2 := M0.step D2
  rw [← hw2]; clear hw2
  refine qC ?_
  refine qC ?_
  refine qC ?_
  refine qC ?_
  refine qC ?_
  refine qC ?_
  refine WP.p rfl rfl rfl rfl (fun _ => Ex.ia Tryd.underlying67 sz23 rfl rfl ⟨by omega, by omega⟩) ?_
  refine qC ?_
  refine qC ?_
  refine WP.p rfl rfl rfl rfl (fun _ => Ex.ia Tryd.underlying67 sz23 rfl rfl ⟨by omega, by omega⟩) ?_
  refine WP.q (Keep.refl _ _) rfl rfl rfl rfl (fun w' hS => Ex.load ty23 rfl (hS.cell (ub_rd (M2.get (i := 0) rfl) (k := pv) (by omega) (by omega)) (fun f => f))) ?_
  refine WP.q (Keep.refl _ _) rfl rfl rfl rfl (fun w' hS => Ex.load ty23 rfl (hS.cell (ub_rd (M2.get (i := 0) rfl) (k := a) (by omega) (by omega)) (fun f => f))) ?_
  refine WP.p rfl rfl rfl rfl (fun _ => Ex.ia Tryd.underlying67 sz23 rfl rfl ⟨by omega, by omega⟩) ?_
  refine WP.a0 rfl rfl rfl (Ac.stU M2 ty23 rfl rfl (v := gv xs (pv)) (i := 0) rfl (k := a) (by omega) (by (try simp only [List.length_set, swp_len]); omega)) ?_; rintro v16 w16 ⟨K16, M16⟩; refine .inl ⟨rfl, Keep nof w16, ?_⟩
  try dsimp only [List.set] at M16
  refine WP.p rfl rfl rfl rfl (fun _ => Ex.ia Tryd.underlying67 sz23 rfl rfl ⟨by omega, by omega⟩) ?_
  refine WP.a0 rfl rfl rfl (Ac.stU M16 ty23 rfl rfl (v := gv xs (a)) (i := 0) rfl (k := pv) (by omega) (by (try simp only [List.length_set, swp_len]); omega)) ?_; rintro v18 w18 ⟨K18, M18⟩; refine .inl ⟨rfl, Keep nof w18, ?_⟩
  try dsimp only [List.set] at M18
  refine WP.nil ?_
  refine WX.next ?_
  refine WC.seq ?_
  have hse : (xs.set a (gv xs pv)).set pv (gv xs a) = swp xs a pv := rfl
  rw [hse] at M18
  obtain ⟨ys, hys⟩ : ∃ ys, ys = swp xs a pv := ⟨_, rfl⟩
  rw [← hys] at M18
  have hrl : Rel a b xs ys := by rw [hys]; exact .swp (by omega) (by omega) (by omega) (by omega) (by omega)
  have hya : gv ys a = gv xs pv := by
    rw [hys, gv_swp _ (by omega) (by omega)]
    by_cases e : a = pv
    · rw [if_pos e, e]
    · rw [if_neg e, if_pos rfl]
  refine WC.region ?_
  refine qA ?_
  refine WL.ex rfl rfl rfl (Ex.add rfl rfl (c := ((a + 1 : Nat) : Int)) (wrapN (by omega) (by omega))) ?_
  refine qA ?_
  refine WL.ex rfl rfl rfl (Ex.sub rfl rfl (c := ((b - 1 : Nat) : Int)) (wrapN (by omega) (by omega))) ?_
  refine qB ?_
  refine qB ?_
  refine qE ?_
  refine WC.seq ?_
  refine WC.block ?_
  refine WC.loop (σ := Nat × Nat × List Nat) (fun s => [(0, .slice (some ⟨g, 0, none⟩) n c), (1, .int .i64 (a : Int)), (9, .int .i64 (s.1 : Int)), (10, .int .i64 (s.2.1 : Int))]) (fun s wr => Pe a b s.1 s.2.1 (gv xs pv) s.2.2 ∧ Rel a b xs s.2.2 ∧ Mem w wr FF [ub g s.2.2 tl 23]) (fun s => s.2.1 + 1 - s.1) (((a + 1, b - 1, ys) : Nat × Nat × List Nat)) ?_ (.cons rfl (.cons rfl (.cons rfl (.cons rfl (.nil))))) ?_
  · exact ⟨.start (by omega) hya, hrl, M18⟩
  rintro ⟨i, j, ys⟩ w25 ⟨hpt, hrl, M25⟩
  dsimp only at hpt hrl M25
  obtain ⟨i0, j0, hi0, hj0⟩ : ∃ i0 j0, i0 = i ∧ j0 = j := ⟨_, _, rfl, rfl⟩
  have hi0l : i0 ≤ i := by omega
  have hj0l : j ≤ j0 := by omega
  refine WC.sub (env' := [(0, .slice (some ⟨g, 0, none⟩) n c), (1, .int .i64 (a : Int)), (9, .int .i64 (i : Int)), (10, .int .i64 (j : Int))]) (.cons rfl (.cons rfl (.cons rfl (.cons rfl (.nil))))) ?_
  refine WC.block ?_
  refine WC.cut (σ := Nat) (fun i => [(0, .slice (some ⟨g, 0, none⟩) n c), (1, .int .i64 (a : Int)), (9, .int .i64 (i : Int)), (10, .int .i64 (j : Int))]) (fun i wr => i0 ≤ i ∧ Pe a b i j (gv xs pv) ys ∧ (i ≤ j → gv ys a < gv ys i) ∧ Mem w wr FF [ub g ys tl 23]) ?_ ?_
  ·
    refine WC.block ?_
    refine WC.loop (σ := Nat) (fun i => [(0, .slice (some ⟨g, 0, none⟩) n c), (1, .int .i64 (a : Int)), (9, .int .i64 (i : Int)), (10, .int .i64 (j : Int))]) (fun i wr => i0 ≤ i ∧ Pe a b i j (gv xs pv) ys ∧ Mem w wr FF [ub g ys tl 23]) (fun i => j + 1 - i) (i) ?_ (.cons rfl (.cons rfl (.cons rfl (.cons rfl (.nil))))) ?_
    · exact ⟨hi0l, hpt, M25⟩
    rintro i w26 ⟨hi0l, hpt, M26⟩
    refine WC.seq ?_
    refine WC.seq ?_
    refine WC.draw (Keep nof w26.drew) [12] (.one 0 0 (.one 1 0 (.one 2 0 (.one 3 0 (.one 4 0 (.one 5 0 (.one 6 0 (.one 8 0 (.one 9 0 (.one 10 0 (.one 7 1 (.one 11 1 (.one 12 2 (.one 13 0 (.one 14 0 .nil))))))))))))))) mixed (by kernel_rfl) (by kernel_rfl) (by kernel_rfl) (HQ.then_ (HQ.then_ (HQ.then_ (HQ.block (HQ.then_ (HQ.block (HQ.then_ (HQ.block (HQ.then_ HQ.body))))))))) ?_
    obtain ⟨w27, hw27⟩ : ∃ v, v = w26.drew := ⟨_, rfl⟩
    have D27 : Keep nof w26 w27 := by rw [hw27]; exact Keep.drew _ _
    have M27 := M26.step D27
    rw [← hw27]; clear hw27
    have hyl := hrl.len
    have hp1 := hpt.lo
    have hp2 := hpt.hi
    have hp3 := hpt.ij
    refine qC ?_
    refine qC ?_
    refine WP.p rfl rfl rfl rfl (fun _ => Ex.leq rfl rfl) ?_
    refine qC ?_
    by_cases hij : (i : Int) ≤ (j : Int)
    · rw [decide_eq_true hij]
      refine WP.py rfl rfl rfl rfl rfl rfl (fun _ => Ex.mv rfl) ?_
      refine WP.py rfl rfl rfl rfl rfl rfl (fun _ => Ex.mv rfl) ?_
      refine WP.py rfl rfl rfl rfl rfl rfl (fun _ => Ex.ia Tryd.underlying67 sz23 rfl rfl ⟨by omega, by omega⟩) ?_
      refine WP.py rfl rfl rfl rfl rfl rfl (fun _ => Ex.mv rfl) ?_
      refine WP.py rfl rfl rfl rfl rfl rfl (fun _ => Ex.mv rfl) ?_
      refine WP.py rfl rfl rfl rfl rfl rfl (fun _ => Ex.ia Tryd.underlying67 sz23 rfl rfl ⟨by omega, by omega⟩) ?_
      refine WP.qy (Keep.refl _ _) rfl rfl rfl rfl rfl rfl (fun w' hS => Ex.load ty23 rfl (hS.cell (ub_rd (M27.get (i := 0) rfl) (k := a) (by omega) (by omega)) (fun f => f))) ?_
      refine WP.qy (Keep.refl _ _) rfl rfl rfl rfl rfl rfl (fun w' hS => Ex.load ty23 rfl (hS.cell (ub_rd (M27.get (i := 0) rfl) (k := i) (by omega) (by omega)) (fun f => f))) ?_
      refine WP.ay rfl rfl rfl rfl rfl rfl (Ac.call rfl Tryd.func125 nm125 rfl (less_ok w27 (gv ys (a)) (gv ys (i)))) ?_; rintro v40 w40 ⟨rfl, K40⟩; refine .inl ⟨rfl, Keep nof w40, ?_⟩
      have M40 := M27.step K40
      refine WP.py rfl rfl rfl rfl rfl rfl (fun _ => Ex.not rfl) ?_
      refine WP.p rfl rfl rfl rfl (fun _ => Ex.pickT rfl rfl) ?_
      refine WP.nil ?_
      refine WX.next ?_
      refine WC.cond rfl (fun h43 => ?_) (fun h43 => ?_)
      · have h43b : ¬ gv ys a < gv ys i := by simpa using h43
        refine WC.skip ?_
        refine WX.next ?_
        refine WC.block ?_
        refine WC.region ?_
        refine qA ?_
        refine WL.ex rfl rfl rfl (Ex.add rfl rfl (c := ((i + 1 : Nat) : Int)) (wrapN (by omega) (by omega))) ?_
        refine qB ?_
        refine WL.nil ?_
        refine WX.normal_block (?_)
        refine WX.again (i + 1) ?_ ?_ (.cons rfl (.cons rfl (.cons rfl (.cons rfl (.nil)))))
        · omega
        · exact ⟨by omega, hpt.incI (by omega) (by omega), M40⟩
      · have h43b : ¬ i ≤ j ∨ gv ys a < gv ys i := by first | exact .inl (by omega) | exact .inr (by simpa using h43)
        refine WC.exit ?_
        refine WX.exit_then (WX.exit_then (WX.exit_block (?_)))
        refine WX.join (i) ?_ (.cons rfl (.cons rfl (.cons rfl (.cons rfl (.nil)))))
        exact ⟨hi0l, hpt, fun _ => by omega, M40⟩
    · rw [decide_eq_false hij]
      refine WP.no rfl rfl rfl rfl rfl rfl rfl ?_
      refine WP.no rfl rfl rfl rfl rfl rfl rfl ?_
      refine WP.no rfl rfl rfl rfl rfl rfl rfl ?_
      refine WP.no rfl rfl rfl rfl rfl rfl rfl ?_
      refine WP.no rfl rfl rfl rfl rfl rfl rfl ?_
      refine WP.no rfl rfl rfl rfl rfl rfl rfl ?_
      refine WP.no1 (Keep.refl _ _) rfl rfl rfl rfl rfl rfl rfl ?_
      refine WP.no1 (Keep.refl _ _) rfl rfl rfl rfl rfl rfl rfl ?_
      refine WP.no2 rfl rfl rfl rfl rfl rfl rfl ?_
      refine WP.no rfl rfl rfl rfl rfl rfl rfl ?_
      refine WP.p rfl rfl rfl rfl (fun _ => Ex.pickF rfl rfl) ?_
      refine WP.nil ?_
      refine WX.next ?_
      refine WC.no rfl ?_
      refine WC.exit ?_
      refine WX.exit_then (WX.exit_then (WX.exit_block (?_)))
      refine WX.join (i) ?_ (.cons rfl (.cons rfl (.cons rfl (.cons rfl (.nil)))))
      exact ⟨hi0l, hpt, fun _ => by omega, M27⟩
  · rintro i w47 ⟨hi0l, hpt, hge, M47⟩
    refine WC.cut (σ := Nat) (fun j => [(0, .slice (some ⟨g, 0, none⟩) n c), (1, .int .i64 (a : Int)), (9, .int .i64 (i : Int)), (10, .int .i64 (j : Int))]) (fun j wr => j ≤ j0 ∧ Pe a b i j (gv xs pv) ys ∧ (i ≤ j → gv ys a < gv ys i) ∧ (i ≤ j → gv ys j ≤ gv ys a) ∧ Mem w wr FF [ub g ys tl 23]) ?_ ?_
    ·
      refine WC.block ?_
      refine WC.loop (σ := Nat) (fun j => [(0, .slice (some ⟨g, 0, none⟩) n c), (1, .int .i64 (a : Int)), (9, .int .i64 (i : Int)), (10, .int .i64 (j : Int))]) (fun j wr => j ≤ j0 ∧ Pe a b i j (gv xs pv) ys ∧ (i ≤ j → gv ys a < gv ys i) ∧ Mem w wr FF [ub g ys tl 23]) (fun j => j) (j) ?_ (.cons rfl (.cons rfl (.cons rfl (.cons rfl (.nil))))) ?_
      · exact ⟨hj0l, hpt, hge, M47⟩
      rintro j w48 ⟨hj0l, hpt, hge, M48⟩
      refine WC.seq ?_
      refine WC.seq ?_
      refine WC.draw (Keep nof w48.drew) [12] (.one 0 0 (.one 1 0 (.one 2 0 (.one 3 0 (.one 4 0 (.one 5 0 (.one 6 0 (.one 8 0 (.one 9 0 (.one 10 0 (.one 7 1 (.one 11 1 (.one 12 2 (.one 13 0 .nil)))))))))))))) mixed (by kernel_rfl) (by kernel_rfl) (by kernel_rfl) (HQ.then_ (HQ.then_ (HQ.then_ (HQ.block (HQ.then_ (HQ.block (HQ.then_ (HQ.block (HQ.then_ HQ.body))))))))) ?_
      obtain ⟨w49, hw49⟩ : ∃ v, v = w48.drew := ⟨_, rfl⟩
      have D49 : Keep nof w48 w49 := by rw [hw49]; exact Keep.drew _ _
      have M49 := M48.step D49
      rw [← hw49]; clear hw49
      have hyl := hrl.len
      have hp1 := hpt.lo
      have hp2 := hpt.hi
      have hp3 := hpt.ij
      refine qC ?_
      refine qC ?_
      refine WP.p rfl rfl rfl rfl (fun _ => Ex.leq rfl rfl) ?_
      refine qC ?_
      by_cases hij : (i : Int) ≤ (j : Int)
      · rw [decide_eq_true hij]
        refine WP.py rfl rfl rfl rfl rfl rfl (fun _ => Ex.mv rfl) ?_
        refine WP.py rfl rfl rfl rfl rfl rfl (fun _ => Ex.mv rfl) ?_
        refine WP.py rfl rfl rfl rfl rfl rfl (fun _ => Ex.ia Tryd.underlying67 sz23 rfl rfl ⟨by omega, by omega⟩) ?_
        refine WP.py rfl rfl rfl rfl rfl rfl (fun _ => Ex.mv rfl) ?_
        refine WP.py rfl rfl rfl rfl rfl rfl (fun _ => Ex.mv rfl) ?_
        refine WP.py rfl rfl rfl rfl rfl rfl (fun _ => Ex.ia Tryd.underlying67 sz23 rfl rfl ⟨by omega, by omega⟩) ?_
        refine WP.qy (Keep.refl _ _) rfl rfl rfl rfl rfl rfl (fun w' hS => Ex.load ty23 rfl (hS.cell (ub_rd (M49.get (i := 0) rfl) (k := a) (by omega) (by omega)) (fun f => f))) ?_
        refine WP.qy (Keep.refl _ _) rfl rfl rfl rfl rfl rfl (fun w' hS => Ex.load ty23 rfl (hS.cell (ub_rd (M49.get (i := 0) rfl) (k := j) (by omega) (by omega)) (fun f => f))) ?_
        refine WP.ay rfl rfl rfl rfl rfl rfl (Ac.call rfl Tryd.func125 nm125 rfl (less_ok w49 (gv ys (a)) (gv ys (j)))) ?_; rintro v62 w62 ⟨rfl, K62⟩; refine .inl ⟨rfl, Keep nof w62, ?_⟩
        have M62 := M49.step K62
        refine WP.p rfl rfl rfl rfl (fun _ => Ex.pickT rfl rfl) ?_
        refine WP.nil ?_
        refine WX.next ?_
        refine WC.cond_dec rfl (fun h59 => ?_) (fun h59 => ?_)
        · skip
          refine WC.skip ?_
          refine WX.next ?_
          refine WC.block ?_
          refine WC.region ?_
          refine qA ?_
          refine WL.ex rfl rfl rfl (Ex.sub rfl rfl (c := ((j - 1 : Nat) : Int)) (wrapN (by omega) (by omega))) ?_
          refine qB ?_
          refine WL.nil ?_
          refine WX.normal_block (?_)
          refine WX.again (j - 1) ?_ ?_ (.cons rfl (.cons rfl (.cons rfl (.cons rfl (.nil)))))
          · omega
          · exact ⟨by omega, hpt.decJ (by omega) h59, fun h => hge (by omega), M62⟩
        · skip
          refine WC.exit ?_
          refine WX.exit_then (WX.exit_then (WX.exit_block (?_)))
          refine WX.join (j) ?_ (.cons rfl (.cons rfl (.cons rfl (.cons rfl (.nil)))))
          exact ⟨hj0l, hpt, hge, fun _ => by omega, M62⟩
      · rw [decide_eq_false hij]
        refine WP.no rfl rfl rfl rfl rfl rfl rfl ?_
        refine WP.no rfl rfl rfl rfl rfl rfl rfl ?_
        refine WP.no rfl rfl rfl rfl rfl rfl rfl ?_
        refine WP.no rfl rfl rfl rfl rfl rfl rfl ?_
        refine WP.no rfl rfl rfl rfl rfl rfl rfl ?_
        refine WP.no rfl rfl rfl rfl rfl rfl rfl ?_
        refine WP.no1 (Keep.refl _ _) rfl rfl rfl rfl rfl rfl rfl ?_
        refine WP.no1 (Keep.refl _ _) rfl rfl rfl rfl rfl rfl rfl ?_
        refine WP.no2 rfl rfl rfl rfl rfl rfl rfl ?_
        refine WP.p rfl rfl rfl rfl (fun _ => Ex.pickF rfl rfl) ?_
        refine WP.nil ?_
        refine WX.next ?_
        refine WC.no rfl ?_
        refine WC.exit ?_
        refine WX.exit_then (WX.exit_then (WX.exit_block (?_)))
        refine WX.join (j) ?_ (.cons rfl (.cons rfl (.cons rfl (.cons rfl (.nil)))))
        exact ⟨hj0l, hpt, hge, fun _ => by omega, M49⟩
    · rintro j w68 ⟨hj0l, hpt, hge, hlt, M68⟩
      refine WC.seq ?_
      refine qD ?_
      refine qA ?_
      refine qA ?_
      refine WL.ex rfl rfl rfl (Ex.gtr rfl rfl) ?_
      refine qE ?_
      refine WC.cond_dec rfl (fun h64 => ?_) (fun h64 => ?_)
      · have hyl := hrl.len
        have hp1 := hpt.lo
        have hp2 := hpt.hi
        have hp3 := hpt.ij
        refine WC.exit ?_
        refine WX.exit_then (WX.exit_other rfl (WX.exit_then (WX.exit_block (WX.next (?_)))))
        refine qD ?_
        refine qA ?_
        refine qB ?_
        refine qE ?_
        refine WC.ret ?_
        refine WX.ret1 rfl rfl ?_
        subst hFF
        exact ⟨ys, i, rfl, by omega, by omega, hrl, fun k h1 h2 => hpt.le k h1 h2, fun k h1 h2 => hpt.gt k (by omega) h2, M68.toTurn⟩
      · have hyl := hrl.len
        have hp1 := hpt.lo
        have hp2 := hpt.hi
        have hp3 := hpt.ij
        have hsw := hpt.swap (by omega) (by omega) (hge (by omega)) (hlt (by omega))
        have hij2 := hsw.1
        refine WC.skip ?_
        refine WX.next ?_
        refine WC.seq ?_
        refine WC.draw (Keep nof w68.drew) [13, 15] (.one 0 0 (.one 1 0 (.one 2 0 (.one 3 0 (.one 4 0 (.one 5 0 (.one 6 0 (.one 8 0 (.one 9 0 (.one 10 0 (.one 7 1 (.one 11 1 (.one 12 0 (.one 13 2 (.one 14 0 (.one 15 2 .nil)))))))))))))))) mixed (by kernel_rfl) (by kernel_rfl) (by kernel_rfl) (HQ.then_ (HQ.block (HQ.then_ (HQ.block (HQ.then_ HQ.body))))) ?_
        obtain ⟨w74, hw74⟩ : ∃ v, v = w68.drew := ⟨_, rfl⟩
        have D74 : Keep nof w68 w74 := by rw [hw74]; exact Keep.drew _ _
        have M74 := M68.step D74
        rw [← hw74]; clear hw74
        refine qC ?_
        refine qC ?_
        refine qC ?_
        refine qC ?_
        refine qC ?_
        refine qC ?_
        refine WP.p rfl rfl rfl rfl (fun _ => Ex.ia Tryd.underlying67 sz23 rfl rfl ⟨by omega, by omega⟩) ?_
        refine qC ?_
        refine qC ?_
        refine WP.p rfl rfl rfl rfl (fun _ => Ex.ia Tryd.underlying67 sz23 rfl rfl ⟨by omega, by omega⟩) ?_
        refine WP.q (Keep.refl _ _) rfl rfl rfl rfl (fun w' hS => Ex.load ty23 rfl (hS.cell (ub_rd (M74.get (i := 0) rfl) (k := j) (by omega) (by omega)) (fun f => f))) ?_
        refine WP.q (Keep.refl _ _) rfl rfl rfl rfl (fun w' hS => Ex.load ty23 rfl (hS.cell (ub_rd (M74.get (i := 0) rfl) (k := i) (by omega) (by omega)) (fun f => f))) ?_
        refine WP.p rfl rfl rfl rfl (fun _ => Ex.ia Tryd.underlying67 sz23 rfl rfl ⟨by omega, by omega⟩) ?_
        refine WP.a0 rfl rfl rfl (Ac.stU M74 ty23 rfl rfl (v := gv ys (j)) (i := 0) rfl (k := i) (by omega) (by (try simp only [List.length_set, swp_len]); omega)) ?_; rintro v88 w88 ⟨K88, M88⟩; refine .inl ⟨rfl, Keep nof w88, ?_⟩
        try dsimp only [List.set] at M88
        refine WP.p rfl rfl rfl rfl (fun _ => Ex.ia Tryd.underlying67 sz23 rfl rfl ⟨by omega, by omega⟩) ?_
        refine WP.a0 rfl rfl rfl (Ac.stU M88 ty23 rfl rfl (v := gv ys (i)) (i := 0) rfl (k := j) (by omega) (by (try simp only [List.length_set, swp_len]); omega)) ?_; rintro v90 w90 ⟨K90, M90⟩; refine .inl ⟨rfl, Keep nof w90, ?_⟩
        try dsimp only [List.set] at M90
        refine WP.nil ?_
        refine WX.next ?_
        refine qD ?_
        refine qA ?_
        refine WL.ex rfl rfl rfl (Ex.add rfl rfl (c := ((i + 1 : Nat) : Int)) (wrapN (by omega) (by omega))) ?_
        refine qB ?_
        refine qE ?_
        refine WC.region ?_
        refine qA ?_
        refine WL.ex rfl rfl rfl (Ex.sub rfl rfl (c := ((j - 1 : Nat) : Int)) (wrapN (by omega) (by omega))) ?_
        refine qB ?_
        refine WL.nil ?_
        refine WX.normal_block (?_)
        refine WX.again (((i + 1, j - 1, swp ys i j) : Nat × Nat × List Nat)) ?_ ?_ (.cons rfl (.cons rfl (.cons rfl (.cons rfl (.nil)))))
        · dsimp only; omega
        · exact ⟨hsw.2, hrl.trans (.swp (by omega) (by omega) (by omega) (by omega) (by omega)), M90⟩

end Go.Proofs.YtchmjpdkonfifaaDoor

set_option linter.unusedVariables false
set_option linter.unusedSimpArgs false
namespace Go.Proofs.YtchmjpdkonfifaaDoor
open Go.Sx Go.RowKit
attribute [local irreducible] Ac Ex WL WC WX WP Gives

theorem u8ofN (n : Nat) (h : len8 n ≤ 6) : (UInt8.ofNat (len8 n)).toNat = len8 n := by rw [UInt8.toNat_ofNat', Nat.mod_eq_of_lt (by omega)]
theorem u8w_lt (n : Nat) (h : n < 256) : IntKind.u8.wrap (n : Int) = (n : Int) := by rw [u8w]; simp; omega
def tab8 : List UInt8 := (([0, 1, 2, 2, 3, 3, 3, 3, 4, 4, 4, 4, 4, 4, 4, 4, 5, 5, 5, 5, 5, 5, 5, 5, 5, 5, 5, 5, 5, 5, 5, 5, 6, 6, 6, 6, 6, 6, 6, 6, 6, 6, 6, 6, 6, 6, 6, 6, 6, 6, 6, 6, 6, 6, 6, 6, 6, 6, 6, 6, 6, 6, 6, 6] : List UInt8).append (List.replicate 64 7)).append ((List.replicate 64 8).append (List.replicate 64 8))
theorem tab8_ok : ∀ n, n < 64 → tab8[n]? = some (UInt8.ofNat (len8 n)) := by decide

/- math/bits.Len64 -/
theorem len64_ok (w : World) (n : Nat) (hn : n < 64) : Gives Tryd.prog 129 #[.int .u64 (n : Int)] w fun u w1 => u = .int .i64 (len8 n : Int) ∧ Keep nof w w1 := by
  have M0 := Mem.start w nof
  have h6 : len8 n ≤ 6 := by
    by_cases e : n = 0
    · subst e; decide
    · exact (len8_2 n hn (by omega)).2
  refine Gives.enter (n := 25) Tryd.func129 rfl Tryd.ntmps129 rfl (env := [(0, .int .u64 (n : Int))]) rfl ?_
  refine qD ?_
  refine qB ?_
  refine qE ?_
  refine WC.seq ?_
  refine qD ?_
  refine qA ?_
  refine WL.ex rfl rfl rfl (Ex.geq rfl rfl) ?_
  refine qE ?_
  refine WC.cond_dec rfl (fun h4 => ?_) (fun h4 => ?_)
  · exact absurd h4 (by omega)
  · skip
    refine WC.skip ?_
    refine WX.next ?_
    refine WC.seq ?_
    refine qD ?_
    refine qA ?_
    refine WL.ex rfl rfl rfl (Ex.geq rfl rfl) ?_
    refine qE ?_
    refine WC.cond_dec rfl (fun h8 => ?_) (fun h8 => ?_)
    · exact absurd h8 (by omega)
    · skip
      refine WC.skip ?_
      refine WX.next ?_
      refine WC.seq ?_
      refine qD ?_
      refine qA ?_
      refine WL.ex rfl rfl rfl (Ex.geq rfl rfl) ?_
      refine qE ?_
      refine WC.cond_dec rfl (fun h14 => ?_) (fun h14 => ?_)
      · exact absurd h14 (by omega)
      · skip
        refine WC.skip ?_
        refine WX.next ?_
        refine qD ?_
        refine qA ?_
        refine qA ?_
        refine WL.ex rfl rfl rfl (Ex.cvI Tryd.underlying23 Tryd.underlying5 rfl (c := (n : Int)) (by have h1 := u8w_lt n (by omega); exact h1)) ?_
        refine WL.ex rfl rfl rfl (Ex.ixS (l := tab8) (b := UInt8.ofNat (len8 n)) Tryd.underlying9 rfl rfl (by omega) (by rw [Int.toNat_natCast]; exact tab8_ok n hn)) ?_
        refine WL.ex rfl rfl rfl (Ex.cvI Tryd.underlying5 Tryd.underlying3 rfl (c := (len8 n : Int)) (by rw [show ((UInt8.ofNat (len8 n)).toNat : Int) = (len8 n : Int) by rw [u8ofN n (by omega)]]; exact i64w _ (by omega) (by omega))) ?_
        refine WL.ex rfl rfl rfl (Ex.add rfl rfl (c := (len8 n : Int)) (wrapN (by omega) (by omega))) ?_
        refine qB ?_
        refine qE ?_
        refine WC.ret ?_
        refine WX.ret1 rfl rfl ?_
        exact ⟨rfl, M0.keep⟩

/- math/bits.Len -/
theorem len_ok (w : World) (n : Nat) (hn : n < 64) : Gives Tryd.prog 107 #[.int .u64 (n : Int)] w fun u w1 => u = .int .i64 (len8 n : Int) ∧ Keep nof w w1 := by
  have M0 := Mem.start w nof
  refine Gives.enter (n := 8) Tryd.func107 rfl Tryd.ntmps107 rfl (env := [(0, .int .u64 (n : Int))]) rfl ?_
  refine qD ?_
  refine qB ?_
  refine qE ?_
  refine WC.seq ?_
  refine WC.no rfl ?_
  refine WC.skip ?_
  refine WX.next ?_
  refine qD ?_
  refine qA ?_
  refine WL.ac rfl rfl rfl (Ac.call rfl Tryd.func129 nm129 rfl (len64_ok w n hn)) ?_; rintro v3 w3 ⟨rfl, K3⟩
  have M3 := M0.step K3
  refine qB ?_
  refine qE ?_
  refine WC.ret ?_
  refine WX.ret1 rfl rfl ?_
  exact ⟨rfl, M3.keep⟩

/- slices.nextPowerOfTwo -/
theorem npo_ok (w : World) (n : Nat) (hn : n < 64) : Gives Tryd.prog 132 #[.int .i64 (n : Int)] w fun u w1 => u = .int .u64 ((2 ^ len8 n : Nat) : Int) ∧ Keep nof w w1 := by
  have M0 := Mem.start w nof
  refine Gives.enter (n := 7) Tryd.func132 rfl Tryd.ntmps132 rfl (env := [(0, .int .i64 (n : Int))]) rfl ?_
  refine qD ?_
  refine qB ?_
  refine qE ?_
  refine qD ?_
  refine qA ?_
  refine WL.ex rfl rfl rfl (Ex.cvI Tryd.underlying3 Tryd.underlying162 rfl (u64w_lt _ (by omega))) ?_
  refine WL.ac rfl rfl rfl (Ac.call rfl Tryd.func107 nm107 rfl (len_ok w n hn)) ?_; rintro v4 w4 ⟨rfl, K4⟩
  have M4 := M0.step K4
  refine WL.ex rfl rfl rfl (Ex.shl rfl rfl (m := len8 n) rfl (len8_s n hn)) ?_
  refine qB ?_
  refine qE ?_
  refine WC.ret ?_
  refine WX.ret1 rfl rfl ?_
  exact ⟨rfl, M4.keep⟩

/- (*slices.xorshift).Next -/
theorem next_ok (w : World) (gr : Nat) (z : Int) (hR : (blk gr [.int .u64 (z)] 191).sat w) : Gives Tryd.prog 133 #[.pointer (some ⟨gr, 0, none⟩)] w fun u w1 => ∃ z' : Int, u = .int .u64 z' ∧ Turn w w1 (blk gr [.int .u64 (z)] 191) (blk gr [.int .u64 (z')] 191) := by
  obtain ⟨FF, hFF⟩ : ∃ FF : Nat → Prop, FF = (fun b => b ∈ (blk gr [.int .u64 (z)] 191).fp) := ⟨_, rfl⟩
  have M0 : Mem w w FF [blk gr [.int .u64 (z)] 191] := by rw [hFF]; exact Mem.begin hR
  refine Gives.enter (n := 33) Tryd.func133 rfl Tryd.ntmps133 rfl (env := [(0, .pointer (some ⟨gr, 0, none⟩))]) rfl ?_
  refine qD ?_
  refine qB ?_
  refine qE ?_
  refine WC.seq ?_
  refine WC.draw (Keep nof w.drew) [9] (.one 0 0 (.one 1 0 (.one 3 0 (.one 4 0 (.one 2 1 (.one 5 1 (.one 6 0 (.one 7 0 (.one 8 0 (.one 9 2 .nil)))))))))) mixed (by kernel_rfl) (by kernel_rfl) (by kernel_rfl) (HQ.then_ HQ.body) ?_
  obtain ⟨w2, hw2⟩ : ∃ v, v = w.drew := ⟨_, rfl⟩
  have D2 : Keep nof w w2 := by rw [hw2]; exact Keep.drew _ _
  have M2 := M0.step D2
  rw [← hw2]; clear hw2
  refine qC ?_
  refine WP.p rfl rfl rfl rfl (fun _ => Ex.nilc rfl) ?_
  refine qC ?_
  refine WP.p rfl rfl rfl rfl (fun _ => Ex.nilc rfl) ?_
  refine WP.q (Keep.refl _ _) rfl rfl rfl rfl (fun w' hS => Ex.load ty191 rfl (hS.cell (M2.cell (i := 0) rfl rfl) (fun f => f))) ?_
  refine WP.q (Keep.refl _ _) rfl rfl rfl rfl (fun w' hS => Ex.load ty191 rfl (hS.cell (M2.cell (i := 0) rfl rfl) (fun f => f))) ?_
  refine WP.p rfl rfl rfl rfl (fun _ => Ex.shl rfl rfl (m := 13) rfl rfl) ?_
  refine WP.p rfl rfl rfl rfl (fun _ => Ex.bxor rfl rfl rfl) ?_
  refine WP.p rfl rfl rfl rfl (fun _ => Ex.nilc rfl) ?_
  refine WP.a0 rfl rfl rfl (Ac.st M2 ty191 rfl rfl rfl (i := 0) rfl (by simp)) ?_; rintro v12 w12 ⟨K12, M12⟩; refine .inl ⟨rfl, Keep nof w12, ?_⟩
  try dsimp only [List.set] at M12
  refine WP.nil ?_
  refine WX.next ?_
  refine WC.seq ?_
  refine WC.draw (Keep nof w12.drew) [9] (.one 0 0 (.one 1 0 (.one 3 0 (.one 4 0 (.one 2 1 (.one 5 1 (.one 6 0 (.one 7 0 (.one 8 0 (.one 9 2 .nil)))))))))) mixed (by kernel_rfl) (by kernel_rfl) (by kernel_rfl) (HQ.then_ HQ.body) ?_
  obtain ⟨w13, hw13⟩ : ∃ v, v = w12.drew := ⟨_, rfl⟩
  have D13 : Keep nof w12 w13 := by rw [hw13]; exact Keep.drew _ _
  have M13 := M12.step D13
  rw [← hw13]; clear hw13
  refine qC ?_
  refine WP.p rfl rfl rfl rfl (fun _ => Ex.nilc rfl) ?_
  refine qC ?_
  refine WP.p rfl rfl rfl rfl (fun _ => Ex.nilc rfl) ?_
  refine WP.q (Keep.refl _ _) rfl rfl rfl rfl (fun w' hS => Ex.load ty191 rfl (hS.cell (M13.cell (i := 0) rfl rfl) (fun f => f))) ?_
  refine WP.q (Keep.refl _ _) rfl rfl rfl rfl (fun w' hS => Ex.load ty191 rfl (hS.cell (M13.cell (i := 0) rfl rfl) (fun f => f))) ?_
  refine WP.p rfl rfl rfl rfl (fun _ => Ex.shr rfl rfl (m := 7) rfl rfl) ?_
  refine WP.p rfl rfl rfl rfl (fun _ => Ex.bxor rfl rfl rfl) ?_
  refine WP.p rfl rfl rfl rfl (fun _ => Ex.nilc rfl) ?_
  refine WP.a0 rfl rfl rfl (Ac.st M13 ty191 rfl rfl rfl (i := 0) rfl (by simp)) ?_; rintro v23 w23 ⟨K23, M23⟩; refine .inl ⟨rfl, Keep nof w23, ?_⟩
  try dsimp only [List.set] at M23
  refine WP.nil ?_
  refine WX.next ?_
  refine WC.seq ?_
  refine WC.draw (Keep nof w23.drew) [9] (.one 0 0 (.one 1 0 (.one 3 0 (.one 4 0 (.one 2 1 (.one 5 1 (.one 6 0 (.one 7 0 (.one 8 0 (.one 9 2 .nil)))))))))) mixed (by kernel_rfl) (by kernel_rfl) (by kernel_rfl) (HQ.then_ HQ.body) ?_
  obtain ⟨w24, hw24⟩ : ∃ v, v = w23.drew := ⟨_, rfl⟩
  have D24 : Keep nof w23 w24 := by rw [hw24]; exact Keep.drew _ _
  have M24 := M23.step D24
  rw [← hw24]; clear hw24
  refine qC ?_
  refine WP.p rfl rfl rfl rfl (fun _ => Ex.nilc rfl) ?_
  refine qC ?_
  refine WP.p rfl rfl rfl rfl (fun _ => Ex.nilc rfl) ?_
  refine WP.q (Keep.refl _ _) rfl rfl rfl rfl (fun w' hS => Ex.load ty191 rfl (hS.cell (M24.cell (i := 0) rfl rfl) (fun f => f))) ?_
  refine WP.q (Keep.refl _ _) rfl rfl rfl rfl (fun w' hS => Ex.load ty191 rfl (hS.cell (M24.cell (i := 0) rfl rfl) (fun f => f))) ?_
  refine WP.p rfl rfl rfl rfl (fun _ => Ex.shl rfl rfl (m := 17) rfl rfl) ?_
  refine WP.p rfl rfl rfl rfl (fun _ => Ex.bxor rfl rfl rfl) ?_
  refine WP.p rfl rfl rfl rfl (fun _ => Ex.nilc rfl) ?_
  refine WP.a0 rfl rfl rfl (Ac.st M24 ty191 rfl rfl rfl (i := 0) rfl (by simp)) ?_; rintro v34 w34 ⟨K34, M34⟩; refine .inl ⟨rfl, Keep nof w34, ?_⟩
  try dsimp only [List.set] at M34
  refine WP.nil ?_
  refine WX.next ?_
  refine qD ?_
  refine qA ?_
  refine WL.ex rfl rfl rfl (Ex.nilc rfl) ?_
  refine WL.ex rfl rfl rfl (Ex.load ty191 rfl (M34.cell (i := 0) rfl rfl)) ?_
  refine qB ?_
  refine qE ?_
  refine WC.ret ?_
  refine WX.ret1 rfl rfl ?_
  subst hFF
  exact ⟨_, rfl, M34.toTurn⟩

/- slices.order2Ordered[uint64] -/
theorem ord2_ok (w : World) (g gs c n a b : Nat) (s : Int) (xs : List Nat) (tl : List Value) (hR : (ub g xs tl 23).sat w) (hn : xs.length = n) (ha : a < n) (hb : b < n) (hc : n ≤ 1000000) (hS0 : (blk gs [.int .i64 (s)] 3).sat w) (hgs : g ≠ gs) (hs : 0 ≤ s ∧ s ≤ 1000) :
    Gives Tryd.prog 139 #[.slice (some ⟨g, 0, none⟩) n c, .int .i64 (a : Int), .int .i64 (b : Int), .pointer (some ⟨gs, 0, none⟩)] w fun u w1 => ∃ p q : Nat, ∃ s' : Int, u = .tuple #[.int .i64 (p : Int), .int .i64 (q : Int)] ∧ ((p = a ∧ q = b) ∨ (p = b ∧ q = a)) ∧ s ≤ s' ∧ s' ≤ s + 1 ∧ Turn w w1 (blk gs [.int .i64 (s)] 3) (blk gs [.int .i64 (s')] 3) := by
  obtain ⟨FF, hFF⟩ : ∃ FF : Nat → Prop, FF = (fun b => b ∈ (blk gs [.int .i64 (s)] 3).fp) := ⟨_, rfl⟩
  have M0 : Mem w w FF [blk gs [.int .i64 (s)] 3] := by rw [hFF]; exact Mem.begin hS0
  have hg0 : ¬ FF g := by rw [hFF]; simp [blk]; omega
  refine Gives.enter (n := 28) Tryd.func139 rfl Tryd.ntmps139 rfl (env := [(0, .slice (some ⟨g, 0, none⟩) n c), (1, .int .i64 (a : Int)), (2, .int .i64 (b : Int)), (3, .pointer (some ⟨gs, 0, none⟩))]) rfl ?_
  refine qD ?_
  refine qB ?_
  refine qB ?_
  refine qE ?_
  refine WC.seq ?_
  refine WC.seq ?_
  refine WC.draw (Keep nof w.drew) [8] (.one 0 0 (.one 1 0 (.one 2 0 (.one 4 0 (.one 5 0 (.one 6 0 (.one 3 1 (.one 7 1 (.one 8 2 .nil))))))))) mixed (by kernel_rfl) (by kernel_rfl) (by kernel_rfl) (HQ.then_ (HQ.then_ HQ.body)) ?_
  obtain ⟨w3, hw3⟩ : ∃ v, v = w.drew := ⟨_, rfl⟩
  have D3 : Keep nof w w3 := by rw [hw3]; exact Keep.drew _ _
  have M3 := M0.step D3
  rw [← hw3]; clear hw3
  refine qC ?_
  refine qC ?_
  refine WP.p rfl rfl rfl rfl (fun _ => Ex.ia Tryd.underlying67 sz23 rfl rfl ⟨by omega, by omega⟩) ?_
  refine qC ?_
  refine qC ?_
  refine WP.p rfl rfl rfl rfl (fun _ => Ex.ia Tryd.underlying67 sz23 rfl rfl ⟨by omega, by omega⟩) ?_
  refine WP.q (Keep.refl _ _) rfl rfl rfl rfl (fun w' hS => Ex.load ty23 rfl (ub_rd (ub_old (M3.keep.trans hS.any) hR hg0) (k := b) (by omega) (by omega))) ?_
  refine WP.q (Keep.refl _ _) rfl rfl rfl rfl (fun w' hS => Ex.load ty23 rfl (ub_rd (ub_old (M3.keep.trans hS.any) hR hg0) (k := a) (by omega) (by omega))) ?_
  refine WP.a rfl rfl rfl rfl (Ac.call rfl Tryd.func125 nm125 rfl (less_ok w3 (gv xs (b)) (gv xs (a)))) ?_; rintro v12 w12 ⟨rfl, K12⟩; refine .inl ⟨rfl, Keep nof w12, ?_⟩
  have M12 := M3.step K12
  refine WP.nil ?_
  refine WX.next ?_
  refine WC.cond_dec rfl (fun h18 => ?_) (fun h18 => ?_)
  · skip
    refine qD ?_
    refine qA ?_
    refine WL.ex rfl rfl rfl (Ex.nilc rfl) ?_
    refine WL.ex rfl rfl rfl (Ex.load ty3 rfl (M12.cell (i := 0) rfl rfl)) ?_
    refine WL.ex rfl rfl rfl (Ex.add rfl rfl (i64w _ (by omega) (by omega))) ?_
    refine WL.ex rfl rfl rfl (Ex.nilc rfl) ?_
    refine WL.ac0 rfl rfl (Ac.st M12 ty3 rfl rfl rfl (i := 0) rfl (by simp)) ?_; rintro v18 w18 ⟨K18, M18⟩
    try dsimp only [List.set] at M18
    refine qE ?_
    refine qD ?_
    refine qA ?_
    refine qA ?_
    refine qB ?_
    refine qB ?_
    refine qE ?_
    refine WC.ret ?_
    refine WX.ret_then (?_)
    refine WX.ret2 rfl rfl rfl ?_
    subst hFF
    first | exact ⟨b, a, _, rfl, .inr ⟨rfl, rfl⟩, by omega, by omega, M18.toTurn⟩ | exact ⟨a, b, s, rfl, .inl ⟨rfl, rfl⟩, by omega, by omega, M18.toTurn⟩
  · skip
    refine WC.skip ?_
    refine WX.next ?_
    refine qD ?_
    refine qA ?_
    refine qA ?_
    refine qB ?_
    refine qB ?_
    refine qE ?_
    refine WC.ret ?_
    refine WX.ret2 rfl rfl rfl ?_
    subst hFF
    first | exact ⟨b, a, _, rfl, .inr ⟨rfl, rfl⟩, by omega, by omega, M12.toTurn⟩ | exact ⟨a, b, s, rfl, .inl ⟨rfl, rfl⟩, by omega, by omega, M12.toTurn⟩

/- slices.medianOrdered[uint64] -/
theorem med_ok (w : World) (g gs c n a b d : Nat) (s : Int) (xs : List Nat) (tl : List Value) (hR : (ub g xs tl 23).sat w) (hn : xs.length = n) (ha : a < n) (hb : b < n) (hd : d < n) (hc : n ≤ 1000000) (hS0 : (blk gs [.int .i64 (s)] 3).sat w) (hgs : g ≠ gs) (hs : 0 ≤ s ∧ s ≤ 100) :
    Gives Tryd.prog 135 #[.slice (some ⟨g, 0, none⟩) n c, .int .i64 (a : Int), .int .i64 (b : Int), .int .i64 (d : Int), .pointer (some ⟨gs, 0, none⟩)] w fun u w1 => ∃ m : Nat, ∃ s' : Int, u = .int .i64 (m : Int) ∧ (m = a ∨ m = b ∨ m = d) ∧ Turn w w1 (blk gs [.int .i64 (s)] 3) (blk gs [.int .i64 (s')] 3) := by
  obtain ⟨FF, hFF⟩ : ∃ FF : Nat → Prop, FF = (fun b => b ∈ (blk gs [.int .i64 (s)] 3).fp) := ⟨_, rfl⟩
  have M0 : Mem w w FF [blk gs [.int .i64 (s)] 3] := by rw [hFF]; exact Mem.begin hS0
  have hg0 : ¬ FF g := by rw [hFF]; simp [blk]; omega
  refine Gives.enter (n := 36) Tryd.func135 rfl Tryd.ntmps135 rfl (env := [(0, .slice (some ⟨g, 0, none⟩) n c), (1, .int .i64 (a : Int)), (2, .int .i64 (b : Int)), (3, .int .i64 (d : Int)), (4, .pointer (some ⟨gs, 0, none⟩))]) rfl ?_
  refine qD ?_
  refine qB ?_
  refine qE ?_
  refine qD ?_
  refine qA ?_
  refine qA ?_
  refine qA ?_
  refine qA ?_
  refine WL.ac rfl rfl rfl (Ac.call rfl Tryd.func139 nm139 rfl (ord2_ok w g gs c n a b s xs tl (ub_old M0.keep hR hg0) hn (by omega) (by omega) hc (M0.get (i := 0) rfl) hgs (by omega))) ?_; rintro v6 w6 ⟨p1, q1, s1, rfl, hpq1, hs1, hs1b, T6⟩
  have M6 := M0.turned (i := 0) rfl T6
  try dsimp only [List.set] at M6
  refine qA ?_
  refine WL.ex rfl rfl rfl (Ex.ext rfl rfl) ?_
  refine WL.ex rfl rfl rfl (Ex.ext rfl rfl) ?_
  refine qB ?_
  refine qB ?_
  refine qE ?_
  refine qD ?_
  refine qA ?_
  refine qA ?_
  refine qA ?_
  refine qA ?_
  refine WL.ac rfl rfl rfl (Ac.call rfl Tryd.func139 nm139 rfl (ord2_ok w6 g gs c n q1 d s1 xs tl (ub_old M6.keep hR hg0) hn (by omega) (by omega) hc (M6.get (i := 0) rfl) hgs (by omega))) ?_; rintro v16 w16 ⟨p2, q2, s2, rfl, hpq2, hs2, hs2b, T16⟩
  have M16 := M6.turned (i := 0) rfl T16
  try dsimp only [List.set] at M16
  refine qA ?_
  refine WL.ex rfl rfl rfl (Ex.ext rfl rfl) ?_
  refine WL.ex rfl rfl rfl (Ex.ext rfl rfl) ?_
  refine qB ?_
  refine qB ?_
  refine qE ?_
  refine qD ?_
  refine qA ?_
  refine qA ?_
  refine qA ?_
  refine qA ?_
  refine WL.ac rfl rfl rfl (Ac.call rfl Tryd.func139 nm139 rfl (ord2_ok w16 g gs c n p1 p2 s2 xs tl (ub_old M16.keep hR hg0) hn (by omega) (by omega) hc (M16.get (i := 0) rfl) hgs (by omega))) ?_; rintro v26 w26 ⟨p3, q3, s3, rfl, hpq3, hs3, hs3b, T26⟩
  have M26 := M16.turned (i := 0) rfl T26
  try dsimp only [List.set] at M26
  refine qA ?_
  refine WL.ex rfl rfl rfl (Ex.ext rfl rfl) ?_
  refine WL.ex rfl rfl rfl (Ex.ext rfl rfl) ?_
  refine qB ?_
  refine qB ?_
  refine qE ?_
  refine qD ?_
  refine qA ?_
  refine qB ?_
  refine qE ?_
  refine WC.ret ?_
  refine WX.ret1 rfl rfl ?_
  subst hFF
  exact ⟨q3, s3, rfl, by omega, M26.toTurn⟩

/- slices.choosePivotOrdered[uint64] -/
theorem piv_ok (w : World) (g c n a b : Nat) (xs : List Nat) (tl : List Value) (hR : (ub g xs tl 23).sat w) (hn : xs.length = n) (hab : a + 8 ≤ b) (hab2 : b < a + 50) (hb : b ≤ n) (hc : n ≤ 1000000) :
    Gives Tryd.prog 122 #[.slice (some ⟨g, 0, none⟩) n c, .int .i64 (a : Int), .int .i64 (b : Int)] w fun u w1 => ∃ p : Nat, ∃ h : Int, u = .tuple #[.int .i64 (p : Int), .int .i64 h] ∧ a ≤ p ∧ p < b ∧ Keep nof w w1 := by
  have M0 := Mem.start w nof
  refine Gives.enter (n := 57) Tryd.func122 rfl Tryd.ntmps122 rfl (env := [(0, .slice (some ⟨g, 0, none⟩) n c), (1, .int .i64 (a : Int)), (2, .int .i64 (b : Int))]) rfl ?_
  refine qD ?_
  refine qB ?_
  refine qB ?_
  refine qE ?_
  refine qD ?_
  refine qA ?_
  refine qA ?_
  refine WL.ex rfl rfl rfl (Ex.sub rfl rfl (c := ((b - a : Nat) : Int)) (wrapN (by omega) (by omega))) ?_
  refine qB ?_
  refine qE ?_
  refine qD ?_
  refine WL.ac rfl rfl rfl (Ac.alloc M0 al3) ?_; rintro v7 w7 ⟨gs, rfl, hg7, K7, M7⟩
  refine qE ?_
  refine qD ?_
  refine qA ?_
  refine qA ?_
  refine WL.ex rfl rfl rfl (Ex.quo rfl rfl (by omega) (c := (((b - a) / 4 : Nat) : Int)) (by rw [Int.tdiv_eq_ediv_of_nonneg (by omega)]; exact wrapI (by omega) (by omega) (by omega))) ?_
  refine WL.ex rfl rfl rfl (Ex.mul rfl rfl (c := (((b - a) / 4 : Nat) : Int)) (wrapN (by omega) (by omega))) ?_
  refine WL.ex rfl rfl rfl (Ex.add rfl rfl (c := ((a + (b - a) / 4 : Nat) : Int)) (wrapN (by omega) (by omega))) ?_
  refine qB ?_
  refine qE ?_
  refine qD ?_
  refine qA ?_
  refine qA ?_
  refine WL.ex rfl rfl rfl (Ex.quo rfl rfl (by omega) (c := (((b - a) / 4 : Nat) : Int)) (by rw [Int.tdiv_eq_ediv_of_nonneg (by omega)]; exact wrapI (by omega) (by omega) (by omega))) ?_
  refine WL.ex rfl rfl rfl (Ex.mul rfl rfl (c := (((b - a) / 4 * 2 : Nat) : Int)) (wrapN (by omega) (by omega))) ?_
  refine WL.ex rfl rfl rfl (Ex.add rfl rfl (c := ((a + (b - a) / 4 * 2 : Nat) : Int)) (wrapN (by omega) (by omega))) ?_
  refine qB ?_
  refine qE ?_
  refine qD ?_
  refine qA ?_
  refine qA ?_
  refine WL.ex rfl rfl rfl (Ex.quo rfl rfl (by omega) (c := (((b - a) / 4 : Nat) : Int)) (by rw [Int.tdiv_eq_ediv_of_nonneg (by omega)]; exact wrapI (by omega) (by omega) (by omega))) ?_
  refine WL.ex rfl rfl rfl (Ex.mul rfl rfl (c := (((b - a) / 4 * 3 : Nat) : Int)) (wrapN (by omega) (by omega))) ?_
  refine WL.ex rfl rfl rfl (Ex.add rfl rfl (c := ((a + (b - a) / 4 * 3 : Nat) : Int)) (wrapN (by omega) (by omega))) ?_
  refine qB ?_
  refine qE ?_
  refine WC.seq ?_
  refine qD ?_
  refine qA ?_
  refine WL.ex rfl rfl rfl (Ex.geq rfl rfl) ?_
  refine qE ?_
  refine WC.cond_dec rfl (fun h32 => ?_) (fun h32 => ?_)
  · skip
    refine WC.seq ?_
    refine qD ?_
    refine qA ?_
    refine WL.ex rfl rfl rfl (Ex.geq rfl rfl) ?_
    refine qE ?_
    refine WC.cond_dec rfl (fun h34 => ?_) (fun h34 => ?_)
    · exact absurd h34 (by omega)
    · skip
      refine WC.skip ?_
      refine WX.next ?_
      refine WC.region ?_
      have hgn : g ≠ gs := by
        have h1 := lt_of_heap hR
        rcases M7.own _ (List.mem_of_getElem? (i := 0) rfl) gs (by simp [blk]) with h2 | h2
        · omega
        · exact h2.elim
      refine qA ?_
      refine qA ?_
      refine qA ?_
      refine qA ?_
      refine WL.ac rfl rfl rfl (Ac.call rfl Tryd.func135 nm135 rfl (med_ok w7 g gs c n (a + (b - a) / 4) (a + (b - a) / 4 * 2) (a + (b - a) / 4 * 3) 0 xs tl (ub_old M7.keep hR (fun f => f)) hn (by omega) (by omega) (by omega) hc (M7.get (i := 0) rfl) hgn (by omega))) ?_; rintro v34 w34 ⟨m, s1, rfl, hm, T34⟩
      have M34 := M7.turned (i := 0) rfl T34
      try dsimp only [List.set] at M34
      refine qB ?_
      refine qE ?_
      refine qD ?_
      refine WL.ex rfl rfl rfl (Ex.load ty3 rfl (M34.cell (i := 0) rfl rfl)) ?_
      refine qE ?_
      refine WC.block ?_
      refine qD ?_
      refine WL.ex rfl rfl rfl (Ex.eqI rfl rfl) ?_
      refine qB ?_
      refine qE ?_
      refine WC.cond_dec rfl (fun hc51 => ?_) (fun hc51 => ?_)
      · skip
        refine qD ?_
        refine qA ?_
        refine qB ?_
        refine qB ?_
        refine qE ?_
        refine WC.ret ?_
        refine WX.ret_block (?_)
        refine WX.ret2 rfl rfl rfl ?_
        exact ⟨m, _, rfl, by omega, by omega, M34.keep⟩
      · skip
        refine qD ?_
        refine WL.ex rfl rfl rfl (Ex.eqI rfl rfl) ?_
        refine qB ?_
        refine qE ?_
        refine WC.cond_dec rfl (fun hc54 => ?_) (fun hc54 => ?_)
        · skip
          refine qD ?_
          refine qA ?_
          refine qB ?_
          refine qB ?_
          refine qE ?_
          refine WC.ret ?_
          refine WX.ret_block (?_)
          refine WX.ret2 rfl rfl rfl ?_
          exact ⟨m, _, rfl, by omega, by omega, M34.keep⟩
        · skip
          refine qD ?_
          refine qA ?_
          refine qB ?_
          refine qB ?_
          refine qE ?_
          refine WC.ret ?_
          refine WX.ret_block (?_)
          refine WX.ret2 rfl rfl rfl ?_
          exact ⟨m, _, rfl, by omega, by omega, M34.keep⟩
  · exact absurd h32 (by omega)

/- slices.partialInsertionSortOrdered[uint64] -/
theorem pis_ok (w : World) (g c n a b : Nat) (xs : List Nat) (tl : List Value) (hR : (ub g xs tl 23).sat w) (hn : xs.length = n) (hab : a < b) (hab2 : b < a + 50) (hb : b ≤ n) (hc : n ≤ 1000000) :
    Gives Tryd.prog 124 #[.slice (some ⟨g, 0, none⟩) n c, .int .i64 (a : Int), .int .i64 (b : Int)] w fun u w1 => ∃ r, u = .bool r ∧ (r = true → SrtR a b xs) ∧ Keep nof w w1 := by
  have M0 := Mem.start w nof
  refine Gives.enter (n := 133) Tryd.func124 rfl Tryd.ntmps124 rfl (env := [(0, .slice (some ⟨g, 0, none⟩) n c), (1, .int .i64 (a : Int)), (2, .int .i64 (b : Int))]) rfl ?_
  refine qD ?_
  refine qB ?_
  refine qE ?_
  refine qD ?_
  refine qA ?_
  refine WL.ex rfl rfl rfl (Ex.add rfl rfl (c := ((a + 1 : Nat) : Int)) (wrapN (by omega) (by omega))) ?_
  refine qB ?_
  refine qE ?_
  refine WC.seq ?_
  refine qD ?_
  refine qB ?_
  refine qE ?_
  refine WC.block ?_
  refine WC.loop (σ := Unit) (fun _u => [(0, .slice (some ⟨g, 0, none⟩) n c), (1, .int .i64 (a : Int)), (2, .int .i64 (b : Int)), (7, .int .i64 (((a + 1 : Nat) : Int) : Int)), (8, .int .i64 (0 : Int))]) (fun _u wr => True ∧ Mem w wr nof []) (fun _u => 0) (()) ?_ (.cons rfl (.cons rfl (.cons rfl (.cons rfl (.cons rfl (.nil)))))) ?_
  · exact ⟨trivial, M0⟩
  rintro _u w6 ⟨_, M6⟩
  refine WC.seq ?_
  refine qD ?_
  refine qA ?_
  refine WL.ex rfl rfl rfl (Ex.lss rfl rfl) ?_
  refine qE ?_
  
  refine WC.yes rfl ?_
  refine WC.skip ?_
  refine WX.next ?_
  refine WC.seq ?_
  refine WC.block ?_
  refine WC.seq ?_
  refine WC.block ?_
  refine WC.loop (σ := Nat) (fun i => [(0, .slice (some ⟨g, 0, none⟩) n c), (1, .int .i64 (a : Int)), (2, .int .i64 (b : Int)), (7, .int .i64 (i : Int)), (8, .int .i64 (0 : Int))]) (fun i wr => a < i ∧ i ≤ b ∧ SrtR a i xs ∧ Mem w wr nof []) (fun i => b - i) (a + 1) ?_ (.cons rfl (.cons rfl (.cons rfl (.cons rfl (.cons rfl (.nil)))))) ?_
  · exact ⟨by omega, by omega, .small _ (by omega), M6⟩
  rintro i w9 ⟨hai, hib, hso, M9⟩
  refine WC.seq ?_
  refine WC.seq ?_
  refine WC.draw (Keep nof w9.drew) [13] (.one 0 0 (.one 1 0 (.one 2 0 (.one 3 0 (.one 4 0 (.one 5 0 (.one 6 0 (.one 8 0 (.one 9 0 (.one 10 0 (.one 11 0 (.one 7 1 (.one 12 1 (.one 13 2 (.one 14 0 (.one 15 0 .nil)))))))))))))))) mixed (by kernel_rfl) (by kernel_rfl) (by kernel_rfl) (HQ.then_ (HQ.then_ (HQ.then_ (HQ.block (HQ.then_ (HQ.block (HQ.then_ (HQ.then_ (HQ.block (HQ.then_ HQ.body)))))))))) ?_
  obtain ⟨w10, hw10⟩ : ∃ v, v = w9.drew := ⟨_, rfl⟩
  have D10 : Keep nof w9 w10 := by rw [hw10]; exact Keep.drew _ _
  have M10 := M9.step D10
  rw [← hw10]; clear hw10
  refine qC ?_
  refine qC ?_
  refine WP.p rfl rfl rfl rfl (fun _ => Ex.lss rfl rfl) ?_
  refine qC ?_
  by_cases hib2 : (i : Int) < (b : Int)
  · rw [decide_eq_true hib2]
    refine WP.py rfl rfl rfl rfl rfl rfl (fun _ => Ex.mv rfl) ?_
    refine WP.py rfl rfl rfl rfl rfl rfl (fun _ => Ex.mv rfl) ?_
    refine WP.py rfl rfl rfl rfl rfl rfl (fun _ => Ex.ia Tryd.underlying67 sz23 rfl rfl ⟨by omega, by omega⟩) ?_
    refine WP.py rfl rfl rfl rfl rfl rfl (fun _ => Ex.mv rfl) ?_
    refine WP.py rfl rfl rfl rfl rfl rfl (fun _ => Ex.mv rfl) ?_
    refine WP.py rfl rfl rfl rfl rfl rfl (fun _ => Ex.sub rfl rfl (i64w _ (by omega) (by omega))) ?_
    refine WP.py rfl rfl rfl rfl rfl rfl (fun _ => Ex.ia Tryd.underlying67 sz23 rfl rfl ⟨by omega, by omega⟩) ?_
    refine WP.qy (Keep.refl _ _) rfl rfl rfl rfl rfl rfl (fun w' hS => Ex.load ty23 rfl (ub_rd (ub_old (M10.keep.trans hS) hR (fun f => f)) (k := i) (by omega) (by omega))) ?_
    refine WP.qy (Keep.refl _ _) rfl rfl rfl rfl rfl rfl (fun w' hS => Ex.load ty23 rfl (ub_rd (ub_old (M10.keep.trans hS) hR (fun f => f)) (k := i - 1) (by omega) (by omega))) ?_
    refine WP.ay rfl rfl rfl rfl rfl rfl (Ac.call rfl Tryd.func125 nm125 rfl (less_ok w10 (gv xs (i)) (gv xs (i - 1)))) ?_; rintro v24 w24 ⟨rfl, K24⟩; refine .inl ⟨rfl, Keep nof w24, ?_⟩
    have M24 := M10.step K24
    refine WP.py rfl rfl rfl rfl rfl rfl (fun _ => Ex.not rfl) ?_
    refine WP.p rfl rfl rfl rfl (fun _ => Ex.pickT rfl rfl) ?_
    refine WP.nil ?_
    refine WX.next ?_
    refine WC.cond rfl (fun h32 => ?_) (fun h32 => ?_)
    · have h32b : ¬ gv xs i < gv xs (i - 1) := by simpa using h32
      refine WC.skip ?_
      refine WX.next ?_
      refine WC.block ?_
      refine WC.region ?_
      refine qA ?_
      refine WL.ex rfl rfl rfl (Ex.add rfl rfl (c := ((i + 1 : Nat) : Int)) (wrapN (by omega) (by omega))) ?_
      refine qB ?_
      refine WL.nil ?_
      refine WX.normal_block (?_)
      refine WX.again (i + 1) ?_ ?_ (.cons rfl (.cons rfl (.cons rfl (.cons rfl (.cons rfl (.nil))))))
      · omega
      · exact ⟨by omega, by omega, hso.step hai (by omega), M24⟩
    · skip
      refine WC.exit ?_
      refine WX.exit_then (WX.exit_then (WX.exit_block (WX.next (?_))))
      refine WC.seq ?_
      refine qD ?_
      refine qA ?_
      refine qA ?_
      refine WL.ex rfl rfl rfl (Ex.eqI rfl rfl) ?_
      refine qE ?_
      refine WC.cond_dec rfl (fun h37 => ?_) (fun h37 => ?_)
      · obtain rfl : i = b := by omega
        refine qD ?_
        refine qB ?_
        refine qE ?_
        refine WC.ret ?_
        refine WX.ret_then (WX.ret_block (WX.ret_then (WX.ret_then (WX.ret_block (WX.ret_then (?_))))))
        refine WX.ret1 rfl rfl ?_
        first | exact ⟨true, rfl, fun _ => hso, M24.keep⟩ | exact ⟨false, rfl, (fun h => by cases h), M24.keep⟩
      · skip
        refine WC.skip ?_
        refine WX.next ?_
        refine WC.seq ?_
        refine qD ?_
        refine qA ?_
        refine qA ?_
        refine WL.ex rfl rfl rfl (Ex.sub rfl rfl (c := ((b - a : Nat) : Int)) (wrapN (by omega) (by omega))) ?_
        refine WL.ex rfl rfl rfl (Ex.lss rfl rfl) ?_
        refine qE ?_
        refine WC.cond_dec rfl (fun h41 => ?_) (fun h41 => ?_)
        · skip
          refine qD ?_
          refine qB ?_
          refine qE ?_
          refine WC.ret ?_
          refine WX.ret_then (WX.ret_block (WX.ret_then (WX.ret_then (WX.ret_block (WX.ret_then (?_))))))
          refine WX.ret1 rfl rfl ?_
          first | exact ⟨true, rfl, fun _ => hso, M24.keep⟩ | exact ⟨false, rfl, (fun h => by cases h), M24.keep⟩
        · exact absurd h41 (by omega)
  · rw [decide_eq_false hib2]
    refine WP.no rfl rfl rfl rfl rfl rfl rfl ?_
    refine WP.no rfl rfl rfl rfl rfl rfl rfl ?_
    refine WP.no rfl rfl rfl rfl rfl rfl rfl ?_
    refine WP.no rfl rfl rfl rfl rfl rfl rfl ?_
    refine WP.no rfl rfl rfl rfl rfl rfl rfl ?_
    refine WP.no rfl rfl rfl rfl rfl rfl rfl ?_
    refine WP.no rfl rfl rfl rfl rfl rfl rfl ?_
    refine WP.no1 (Keep.refl _ _) rfl rfl rfl rfl rfl rfl rfl ?_
    refine WP.no1 (Keep.refl _ _) rfl rfl rfl rfl rfl rfl rfl ?_
    refine WP.no2 rfl rfl rfl rfl rfl rfl rfl ?_
    refine WP.no rfl rfl rfl rfl rfl rfl rfl ?_
    refine WP.p rfl rfl rfl rfl (fun _ => Ex.pickF rfl rfl) ?_
    refine WP.nil ?_
    refine WX.next ?_
    refine WC.no rfl ?_
    refine WC.exit ?_
    refine WX.exit_then (WX.exit_then (WX.exit_block (WX.next (?_))))
    refine WC.seq ?_
    refine qD ?_
    refine qA ?_
    refine qA ?_
    refine WL.ex rfl rfl rfl (Ex.eqI rfl rfl) ?_
    refine qE ?_
    refine WC.cond_dec rfl (fun h37 => ?_) (fun h37 => ?_)
    · obtain rfl : i = b := by omega
      refine qD ?_
      refine qB ?_
      refine qE ?_
      refine WC.ret ?_
      refine WX.ret_then (WX.ret_block (WX.ret_then (WX.ret_then (WX.ret_block (WX.ret_then (?_))))))
      refine WX.ret1 rfl rfl ?_
      first | exact ⟨true, rfl, fun _ => hso, M10.keep⟩ | exact ⟨false, rfl, (fun h => by cases h), M10.keep⟩
    · skip
      refine WC.skip ?_
      refine WX.next ?_
      refine WC.seq ?_
      refine qD ?_
      refine qA ?_
      refine qA ?_
      refine WL.ex rfl rfl rfl (Ex.sub rfl rfl (c := ((b - a : Nat) : Int)) (wrapN (by omega) (by omega))) ?_
      refine WL.ex rfl rfl rfl (Ex.lss rfl rfl) ?_
      refine qE ?_
      refine WC.cond_dec rfl (fun h41 => ?_) (fun h41 => ?_)
      · skip
        refine qD ?_
        refine qB ?_
        refine qE ?_
        refine WC.ret ?_
        refine WX.ret_then (WX.ret_block (WX.ret_then (WX.ret_then (WX.ret_block (WX.ret_then (?_))))))
        refine WX.ret1 rfl rfl ?_
        first | exact ⟨true, rfl, fun _ => hso, M10.keep⟩ | exact ⟨false, rfl, (fun h => by cases h), M10.keep⟩
      · exact absurd h41 (by omega)

/- slices.breakPatternsOrdered[uint64] -/
theorem brk_ok (w : World) (g c n a b : Nat) (xs : List Nat) (tl : List Value) (hR : (ub g xs tl 23).sat w) (hn : xs.length = n) (hab : a + 8 ≤ b) (hab2 : b < a + 50) (hb : b ≤ n) (hc : n ≤ 1000000) :
    Gives Tryd.prog 121 #[.slice (some ⟨g, 0, none⟩) n c, .int .i64 (a : Int), .int .i64 (b : Int)] w fun u w1 => ∃ ys, Rel a b xs ys ∧ Turn w w1 (ub g xs tl 23) (ub g ys tl 23) := by
  obtain ⟨FF, hFF⟩ : ∃ FF : Nat → Prop, FF = (fun b => b ∈ (ub g xs tl 23).fp) := ⟨_, rfl⟩
  have M0 : Mem w w FF [ub g xs tl 23] := by rw [hFF]; exact Mem.begin hR
  obtain ⟨m, hm⟩ : ∃ m, m = 2 ^ len8 (b - a) := ⟨_, rfl⟩
  have hm2 := (len8_2 (b - a) (by omega) (by omega)).1
  rw [← hm] at hm2
  have hm1 : 1 ≤ m := by rw [hm]; exact Nat.one_le_two_pow
  refine Gives.enter (n := 65) Tryd.func121 rfl Tryd.ntmps121 rfl (env := [(0, .slice (some ⟨g, 0, none⟩) n c), (1, .int .i64 (a : Int)), (2, .int .i64 (b : Int))]) rfl ?_
  refine qD ?_
  refine qA ?_
  refine qA ?_
  refine WL.ex rfl rfl rfl (Ex.sub rfl rfl (c := ((b - a : Nat) : Int)) (wrapN (by omega) (by omega))) ?_
  refine qB ?_
  refine qE ?_
  refine qD ?_
  refine qA ?_
  refine WL.ex rfl rfl rfl (Ex.geq rfl rfl) ?_
  refine qE ?_
  refine WC.cond_dec rfl (fun h15 => ?_) (fun h15 => ?_)
  · skip
    refine qD ?_
    refine qA ?_
    refine WL.ex rfl rfl rfl (Ex.cvI Tryd.underlying3 Tryd.underlying191 rfl (u64w_lt _ (by omega))) ?_
    refine WL.ac rfl rfl rfl (Ac.alloc M0 (l := [.int .u64 0]) (by kernel_rfl)) ?_; rintro v9 w9 ⟨gr, rfl, hg9, K9, M9⟩
    refine WL.ac0 rfl rfl (Ac.st M9 ty191 rfl rfl rfl (i := 0) rfl (by simp)) ?_; rintro v10 w10 ⟨K10, M10⟩
    try dsimp only [List.set] at M10
    refine qE ?_
    refine qD ?_
    refine qA ?_
    refine WL.ac rfl rfl rfl (Ac.call rfl Tryd.func132 nm132 rfl (npo_ok w10 (b - a) (by omega))) ?_; rintro v12 w12 ⟨rfl, K12⟩
    rw [← hm]
    have M12 := M10.step K12
    refine qB ?_
    refine qE ?_
    refine qD ?_
    refine qA ?_
    refine qA ?_
    refine WL.ex rfl rfl rfl (Ex.quo rfl rfl (by omega) (c := (((b - a) / 4 : Nat) : Int)) (by rw [Int.tdiv_eq_ediv_of_nonneg (by omega)]; exact wrapI (by omega) (by omega) (by omega))) ?_
    refine WL.ex rfl rfl rfl (Ex.mul rfl rfl (c := (((b - a) / 4 * 2 : Nat) : Int)) (wrapN (by omega) (by omega))) ?_
    refine WL.ex rfl rfl rfl (Ex.add rfl rfl (c := ((a + (b - a) / 4 * 2 : Nat) : Int)) (wrapN (by omega) (by omega))) ?_
    refine WL.ex rfl rfl rfl (Ex.sub rfl rfl (c := ((a + (b - a) / 4 * 2 - 1 : Nat) : Int)) (wrapN (by omega) (by omega))) ?_
    refine qB ?_
    refine qE ?_
    refine WC.block ?_
    refine WC.loop (σ := Nat × List Nat × Int) (fun s => [(0, .slice (some ⟨g, 0, none⟩) n c), (1, .int .i64 (a : Int)), (6, .int .i64 (((b - a : Nat) : Int) : Int)), (7, .pointer (some ⟨gr, 0, none⟩)), (8, .int .u64 (m : Int)), (9, .int .i64 (s.1 : Int))]) (fun s wr => a + (b - a) / 4 * 2 - 1 ≤ s.1 ∧ s.1 ≤ a + (b - a) / 4 * 2 + 2 ∧ Rel a b xs s.2.1 ∧ Mem w wr FF [ub g s.2.1 tl 23, blk gr [.int .u64 (s.2.2)] 191]) (fun s => a + (b - a) / 4 * 2 + 2 - s.1) ((a + (b - a) / 4 * 2 - 1, xs, ((b - a : Nat) : Int))) ?_ (.cons rfl (.cons rfl (.cons rfl (.cons rfl (.cons rfl (.cons rfl (.nil))))))) ?_
    · exact ⟨by dsimp only; omega, by dsimp only; omega, .refl _ _ _, (Mem.pick M12 [1, 0] (by decide) rfl)⟩
    rintro ⟨i, ys, z⟩ w21 ⟨hi1, hi2, hrl, M21⟩
    dsimp only at hi1 hi2 hrl M21
    refine WC.sub (env' := [(0, .slice (some ⟨g, 0, none⟩) n c), (1, .int .i64 (a : Int)), (6, .int .i64 (((b - a : Nat) : Int) : Int)), (7, .pointer (some ⟨gr, 0, none⟩)), (8, .int .u64 (m : Int)), (9, .int .i64 (i : Int))]) (.cons rfl (.cons rfl (.cons rfl (.cons rfl (.cons rfl (.cons rfl (.nil))))))) ?_
    refine WC.seq ?_
    refine WC.seq ?_
    have hyl := hrl.len
    refine WC.region ?_
    refine qA ?_
    refine qA ?_
    refine qA ?_
    refine WL.ex rfl rfl rfl (Ex.quo rfl rfl (by omega) (c := (((b - a) / 4 : Nat) : Int)) (by rw [Int.tdiv_eq_ediv_of_nonneg (by omega)]; exact wrapI (by omega) (by omega) (by omega))) ?_
    refine WL.ex rfl rfl rfl (Ex.mul rfl rfl (c := (((b - a) / 4 * 2 : Nat) : Int)) (wrapN (by omega) (by omega))) ?_
    refine WL.ex rfl rfl rfl (Ex.add rfl rfl (c := ((a + (b - a) / 4 * 2 : Nat) : Int)) (wrapN (by omega) (by omega))) ?_
    refine WL.ex rfl rfl rfl (Ex.add rfl rfl (c := ((a + (b - a) / 4 * 2 + 1 : Nat) : Int)) (wrapN (by omega) (by omega))) ?_
    refine WL.ex rfl rfl rfl (Ex.leq rfl rfl) ?_
    refine qE ?_
    refine WC.cond_dec rfl (fun hc33 => ?_) (fun hc33 => ?_)
    · skip
      refine WC.skip ?_
      refine WX.next ?_
      refine WC.seq ?_
      refine WC.block ?_
      refine qD ?_
      refine WL.ac rfl rfl rfl (Ac.call rfl Tryd.func133 nm133 rfl (next_ok w21 gr z (M21.get (i := 1) rfl))) ?_; rintro v30 w30 ⟨z1, rfl, T30⟩
      have M30 := M21.turned (i := 1) rfl T30
      try dsimp only [List.set] at M30
      obtain ⟨o, ho, hol⟩ := band_le z1 (m - 1) (by omega)
      refine qA ?_
      refine WL.ex rfl rfl rfl (Ex.sub rfl rfl (c := ((m - 1 : Nat) : Int)) (by rw [show (m : Int) - 1 = ((m - 1 : Nat) : Int) by omega]; exact u64w_lt _ (by omega))) ?_
      refine WL.ex rfl rfl rfl (Ex.band rfl rfl ho) ?_
      refine WL.ex rfl rfl rfl (Ex.cvI Tryd.underlying162 Tryd.underlying3 rfl (wrapN (k := o) rfl (by omega))) ?_
      refine qB ?_
      refine qE ?_
      refine WC.cut (σ := Nat) (fun o1 => [(0, .slice (some ⟨g, 0, none⟩) n c), (1, .int .i64 (a : Int)), (6, .int .i64 (((b - a : Nat) : Int) : Int)), (7, .pointer (some ⟨gr, 0, none⟩)), (8, .int .u64 (m : Int)), (9, .int .i64 (i : Int)), (10, .int .i64 (o1 : Int))]) (fun o1 wr => o1 < b - a ∧ Mem w wr FF [ub g ys tl 23, blk gr [.int .u64 (z1)] 191]) ?_ ?_
      ·
        refine qD ?_
        refine qA ?_
        refine qA ?_
        refine WL.ex rfl rfl rfl (Ex.geq rfl rfl) ?_
        refine qE ?_
        refine WC.cond_dec rfl (fun h43 => ?_) (fun h43 => ?_)
        · skip
          refine WC.region ?_
          refine qA ?_
          refine qA ?_
          refine WL.ex rfl rfl rfl (Ex.sub rfl rfl (c := ((o - (b - a) : Nat) : Int)) (wrapN (by omega) (by omega))) ?_
          refine qB ?_
          refine WL.nil ?_
          refine WX.join (o - (b - a)) ?_ (.cons rfl (.cons rfl (.cons rfl (.cons rfl (.cons rfl (.cons rfl (.cons rfl (.nil))))))))
          exact ⟨by omega, M30⟩
        · skip
          refine WC.skip ?_
          refine WX.join (o) ?_ (.cons rfl (.cons rfl (.cons rfl (.cons rfl (.cons rfl (.cons rfl (.cons rfl (.nil))))))))
          exact ⟨by omega, M30⟩
      · rintro o1 w43 ⟨ho1, M43⟩
        refine WC.draw (Keep nof w43.drew) [17, 19] (.one 0 0 (.one 1 0 (.one 2 0 (.one 3 0 (.one 4 0 (.one 5 0 (.one 6 0 (.one 7 0 (.one 8 0 (.one 9 0 (.one 10 0 (.one 12 0 (.one 13 0 (.one 14 0 (.one 11 1 (.one 15 1 (.one 16 0 (.one 17 2 (.one 18 0 (.one 19 2 .nil)))))))))))))))))))) mixed (by kernel_rfl) (by kernel_rfl) (by kernel_rfl) (HQ.block (HQ.then_ (HQ.then_ (HQ.block HQ.body)))) ?_
        obtain ⟨w44, hw44⟩ : ∃ v, v = w43.drew := ⟨_, rfl⟩
        have D44 : Keep nof w43 w44 := by rw [hw44]; exact Keep.drew _ _
        have M44 := M43.step D44
        rw [← hw44]; clear hw44
        refine qC ?_
        refine qC ?_
        refine qC ?_
        refine qC ?_
        refine qC ?_
        refine WP.p rfl rfl rfl rfl (fun _ => Ex.add rfl rfl (i64w _ (by omega) (by omega))) ?_
        refine qC ?_
        refine qC ?_
        refine qC ?_
        refine WP.p rfl rfl rfl rfl (fun _ => Ex.add rfl rfl (i64w _ (by omega) (by omega))) ?_
        refine WP.p rfl rfl rfl rfl (fun _ => Ex.ia Tryd.underlying67 sz23 rfl rfl ⟨by omega, by omega⟩) ?_
        refine qC ?_
        refine qC ?_
        refine WP.p rfl rfl rfl rfl (fun _ => Ex.ia Tryd.underlying67 sz23 rfl rfl ⟨by omega, by omega⟩) ?_
        refine WP.q (Keep.refl _ _) rfl rfl rfl rfl (fun w' hS => Ex.load ty23 rfl (hS.cell (ub_rd (M44.get (i := 0) rfl) (k := a + o1) (by omega) (by omega)) (fun f => f))) ?_
        refine WP.q (Keep.refl _ _) rfl rfl rfl rfl (fun w' hS => Ex.load ty23 rfl (hS.cell (ub_rd (M44.get (i := 0) rfl) (k := i) (by omega) (by omega)) (fun f => f))) ?_
        refine WP.p rfl rfl rfl rfl (fun _ => Ex.ia Tryd.underlying67 sz23 rfl rfl ⟨by omega, by omega⟩) ?_
        refine WP.a0 rfl rfl rfl (Ac.stU M44 ty23 rfl rfl (v := gv ys (a + o1)) (i := 0) rfl (k := i) (by omega) (by (try simp only [List.length_set, swp_len]); omega)) ?_; rintro v62 w62 ⟨K62, M62⟩; refine .inl ⟨rfl, Keep nof w62, ?_⟩
        try dsimp only [List.set] at M62
        refine WP.p rfl rfl rfl rfl (fun _ => Ex.ia Tryd.underlying67 sz23 rfl rfl ⟨by omega, by omega⟩) ?_
        refine WP.a0 rfl rfl rfl (Ac.stU M62 ty23 rfl rfl (v := gv ys i) (i := 0) rfl (k := a + o1) (by omega) (by (try simp only [List.length_set, swp_len]); omega)) ?_; rintro v64 w64 ⟨K64, M64⟩; refine .inl ⟨rfl, Keep nof w64, ?_⟩
        try dsimp only [List.set] at M64
        refine WP.nil ?_
        refine WX.normal_block (WX.next (?_))
        refine WC.region ?_
        refine qA ?_
        refine WL.ex rfl rfl rfl (Ex.add rfl rfl (c := ((i + 1 : Nat) : Int)) (wrapN (by omega) (by omega))) ?_
        refine qB ?_
        refine WL.nil ?_
        refine WX.again (((i + 1, swp ys i (a + o1), z1) : Nat × List Nat × Int)) ?_ ?_ (.cons rfl (.cons rfl (.cons rfl (.cons rfl (.cons rfl (.cons rfl (.nil)))))))
        · dsimp only; omega
        · exact ⟨by dsimp only; omega, by dsimp only; omega, hrl.trans (.swp (by omega) (by omega) (by omega) (by omega) (by omega)), (Mem.pick M64 [0, 1] (by decide) rfl)⟩
    · skip
      refine WC.exit ?_
      refine WX.exit_then (WX.exit_then (WX.exit_block (?_)))
      refine WX.end0 rfl ?_
      subst hFF
      have Mf : Mem w w21 _ [ub g ys tl 23] := (Mem.sub M21 (.cons_cons _ (List.nil_sublist _)))
      exact ⟨ys, hrl, Mf.toTurn⟩
  · exact absurd h15 (by omega)

end Go.Proofs.YtchmjpdkonfifaaDoor
