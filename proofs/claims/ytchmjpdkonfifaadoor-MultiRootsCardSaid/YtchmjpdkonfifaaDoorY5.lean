/- Walks, written by gen.py off the translation's own print: each says what the Go function comes to. -/
import Derived.Test.YtchmjpdkonfifaaDoorY4
import Derived.Test.YtchmjpdkonfifaaDoorMul
import Derived.Test.YtchmjpdkonfifaaDoorFn
import Derived.Test.YtchmjpdkonfifaaDoorClm
import Derived.Test.YtchmjpdkonfifaaDoorAl
set_option linter.unusedVariables false
set_option linter.unusedSimpArgs false
namespace Go.Proofs.YtchmjpdkonfifaaDoor
open Go.Sx Go.RowKit
attribute [local irreducible] Ac Ex WL WC WX WP Gives

def PdqOk (N : Nat) : Prop := ∀ (w : World) (g c n a0 b0 lim0 : Nat) (xs : List Nat) (tl : List Value), (ub g xs tl 23).sat w → xs.length = n → a0 ≤ b0 → b0 ≤ n → n < 50 → lim0 ≤ 64 → b0 - a0 < N → Pr a0 b0 xs →
    Gives Tryd.prog 106 #[.slice (some ⟨g, 0, none⟩) n c, .int .i64 (a0 : Int), .int .i64 (b0 : Int), .int .i64 (lim0 : Int)] w fun u w1 => ∃ ys, Rel a0 b0 xs ys ∧ SrtR a0 b0 ys ∧ Turn w w1 (ub g xs tl 23) (ub g ys tl 23)

/- slices.pdqsortOrdered[uint64] -/
theorem pdq_step (N : Nat) (ih : PdqOk N) (w : World) (g c n a0 b0 lim0 : Nat) (xs : List Nat) (tl : List Value) (hR : (ub g xs tl 23).sat w) (hn : xs.length = n) (hab0 : a0 ≤ b0) (hb0 : b0 ≤ n) (hn50 : n < 50) (hl0 : lim0 ≤ 64) (hN : b0 - a0 ≤ N) (hpr0 : Pr a0 b0 xs) :
    Gives Tryd.prog 106 #[.slice (some ⟨g, 0, none⟩) n c, .int .i64 (a0 : Int), .int .i64 (b0 : Int), .int .i64 (lim0 : Int)] w fun u w1 => ∃ ys, Rel a0 b0 xs ys ∧ SrtR a0 b0 ys ∧ Turn w w1 (ub g xs tl 23) (ub g ys tl 23) := by
  obtain ⟨FF, hFF⟩ : ∃ FF : Nat → Prop, FF = (fun b => b ∈ (ub g xs tl 23).fp) := ⟨_, rfl⟩
  have M0 : Mem w w FF [ub g xs tl 23] := by rw [hFF]; exact Mem.begin hR
  refine Gives.enter (n := 134) Tryd.func106 rfl Tryd.ntmps106 rfl (env := [(0, .slice (some ⟨g, 0, none⟩) n c), (1, .int .i64 (a0 : Int)), (2, .int .i64 (b0 : Int)), (3, .int .i64 (lim0 : Int))]) rfl ?_
  refine qD ?_
  refine qB ?_
  refine qE ?_
  refine qD ?_
  refine qB ?_
  refine qE ?_
  refine WC.block ?_
  refine WC.loop (σ := Nat × Nat × Nat × Bool × Bool × List Nat) (fun s => [(0, .slice (some ⟨g, 0, none⟩) n c), (1, .int .i64 (s.1 : Int)), (2, .int .i64 (s.2.1 : Int)), (3, .int .i64 (s.2.2.1 : Int)), (8, .bool s.2.2.2.1), (9, .bool s.2.2.2.2.1)]) (fun s wr => a0 ≤ s.1 ∧ s.1 ≤ s.2.1 ∧ s.2.1 ≤ b0 ∧ s.2.2.1 ≤ 64 ∧ Rel a0 b0 xs s.2.2.2.2.2 ∧ St a0 b0 s.1 s.2.1 s.2.2.2.2.2 ∧ Pr s.1 s.2.1 s.2.2.2.2.2 ∧ Mem w wr FF [ub g s.2.2.2.2.2 tl 23]) (fun s => s.2.1 - s.1) (((a0, b0, lim0, true, true, xs) : Nat × Nat × Nat × Bool × Bool × List Nat)) ?_ (.cons rfl (.cons rfl (.cons rfl (.cons rfl (.cons rfl (.cons rfl (.nil))))))) ?_
  · exact ⟨by dsimp only; omega, by dsimp only; omega, by dsimp only; omega, hl0, .refl _ _ _, .init _ _ _, hpr0, M0⟩
  rintro ⟨a, b, lim, bal, prt, ys⟩ w3 ⟨haa, hab, hbb, hlim, hrl, hst, hpr, M3⟩
  dsimp only at haa hab hbb hlim hrl hst hpr M3
  refine WC.sub (env' := [(0, .slice (some ⟨g, 0, none⟩) n c), (1, .int .i64 (a : Int)), (2, .int .i64 (b : Int)), (3, .int .i64 (lim : Int)), (8, .bool bal), (9, .bool prt)]) (.cons rfl (.cons rfl (.cons rfl (.cons rfl (.cons rfl (.cons rfl (.nil))))))) ?_
  refine WC.block ?_
  refine WC.seq ?_
  have hyl := hrl.len
  refine WC.region ?_
  refine qA ?_
  refine qA ?_
  refine WL.ex rfl rfl rfl (Ex.sub rfl rfl (c := ((b - a : Nat) : Int)) (wrapN (by omega) (by omega))) ?_
  refine qB ?_
  refine qE ?_
  refine WC.seq ?_
  refine qD ?_
  refine qA ?_
  refine WL.ex rfl rfl rfl (Ex.leq rfl rfl) ?_
  refine qE ?_
  refine WC.cond_dec rfl (fun h23 => ?_) (fun h23 => ?_)
  · skip
    refine qD ?_
    refine qA ?_
    refine qA ?_
    refine qA ?_
    refine WL.ac rfl rfl rfl (Ac.call rfl Tryd.func119 nm119 rfl (ins_ok w3 g c n a b ys tl (M3.get (i := 0) rfl) (by omega) (by omega) (by omega) (by omega))) ?_; rintro v13 w13 ⟨zs, hrz, hso, T13⟩
    have M13 := M3.turned (i := 0) rfl T13
    try dsimp only [List.set] at M13
    have hfin : Rel a0 b0 xs zs := hrl.trans (hrz.mono (by omega) (by omega))
    have hfs : SrtR a0 b0 zs := (hst.rel hrz (by omega) (by omega)).done hso
    refine qE ?_
    refine WC.ret ?_
    refine WX.ret_then (WX.ret_block (WX.ret_then (WX.ret_block (?_))))
    refine WX.ret0 rfl ?_
    subst hFF
    exact ⟨_, hfin, hfs, M13.toTurn⟩
  · skip
    refine WC.skip ?_
    refine WX.next ?_
    refine WC.seq ?_
    refine qD ?_
    refine qA ?_
    refine WL.ex rfl rfl rfl (Ex.eqI rfl rfl) ?_
    refine qE ?_
    refine WC.cond_dec rfl (fun h29 => ?_) (fun h29 => ?_)
    · skip
      refine qD ?_
      refine qA ?_
      refine qA ?_
      refine qA ?_
      refine WL.ac rfl rfl rfl (Ac.call rfl Tryd.func120 nm120 rfl (heap_ok w3 g c n a b ys tl (M3.get (i := 0) rfl) (by omega) (by omega) (by omega) (by omega))) ?_; rintro v19 w19 ⟨zs, hrz, hso, T19⟩
      have M19 := M3.turned (i := 0) rfl T19
      try dsimp only [List.set] at M19
      have hfin : Rel a0 b0 xs zs := hrl.trans (hrz.mono (by omega) (by omega))
      have hfs : SrtR a0 b0 zs := (hst.rel hrz (by omega) (by omega)).done hso
      refine qE ?_
      refine WC.ret ?_
      refine WX.ret_then (WX.ret_block (WX.ret_then (WX.ret_block (?_))))
      refine WX.ret0 rfl ?_
      subst hFF
      exact ⟨_, hfin, hfs, M19.toTurn⟩
    · skip
      refine WC.skip ?_
      refine WX.next ?_
      refine WC.cut (σ := Nat × List Nat) (fun s => [(0, .slice (some ⟨g, 0, none⟩) n c), (1, .int .i64 (a : Int)), (2, .int .i64 (b : Int)), (3, .int .i64 (s.1 : Int)), (8, .bool bal), (9, .bool prt), (10, .int .i64 ((b - a : Nat) : Int))]) (fun s wr => s.1 ≤ 64 ∧ Rel a b ys s.2 ∧ Mem w wr FF [ub g s.2 tl 23]) ?_ ?_
      ·
        refine qD ?_
        refine qA ?_
        refine WL.ex rfl rfl rfl (Ex.not rfl) ?_
        refine qE ?_
        refine WC.cond rfl (fun h35 => ?_) (fun h35 => ?_)
        · skip
          refine qD ?_
          refine qA ?_
          refine qA ?_
          refine qA ?_
          refine WL.ac rfl rfl rfl (Ac.call rfl Tryd.func121 nm121 rfl (brk_ok w3 g c n a b ys tl (M3.get (i := 0) rfl) (by omega) (by omega) (by omega) (by omega) (by omega))) ?_; rintro v25 w25 ⟨zs, hrz, T25⟩
          have M25 := M3.turned (i := 0) rfl T25
          try dsimp only [List.set] at M25
          
          refine qE ?_
          refine WC.region ?_
          refine qA ?_
          refine WL.ex rfl rfl rfl (Ex.sub rfl rfl (c := ((lim - 1 : Nat) : Int)) (wrapN (by omega) (by omega))) ?_
          refine qB ?_
          refine WL.nil ?_
          refine WX.join (((lim - 1, zs) : Nat × List Nat)) ?_ (.cons rfl (.cons rfl (.cons rfl (.cons rfl (.cons rfl (.cons rfl (.cons rfl (.nil))))))))
          first | exact ⟨by dsimp only; omega, hrz, M25⟩ | exact ⟨by dsimp only; omega, .refl _ _ _, M25⟩
        · skip
          refine WC.skip ?_
          refine WX.join (((lim, ys) : Nat × List Nat)) ?_ (.cons rfl (.cons rfl (.cons rfl (.cons rfl (.cons rfl (.cons rfl (.cons rfl (.nil))))))))
          first | exact ⟨by dsimp only; omega, hrz, M3⟩ | exact ⟨by dsimp only; omega, .refl _ _ _, M3⟩
      · rintro ⟨l1, y1⟩ w29 ⟨hl1, hr1, M29⟩
        dsimp only at hl1 hr1 M29
        refine WC.sub (env' := [(0, .slice (some ⟨g, 0, none⟩) n c), (1, .int .i64 (a : Int)), (2, .int .i64 (b : Int)), (3, .int .i64 (l1 : Int)), (8, .bool bal), (9, .bool prt), (10, .int .i64 ((b - a : Nat) : Int))]) (.cons rfl (.cons rfl (.cons rfl (.cons rfl (.cons rfl (.cons rfl (.cons rfl (.nil)))))))) ?_
        have hy1 := hr1.len
        refine qD ?_
        refine qA ?_
        refine qA ?_
        refine qA ?_
        refine WL.ac rfl rfl rfl (Ac.call rfl Tryd.func122 nm122 rfl (piv_ok w29 g c n a b y1 tl (M29.get (i := 0) rfl) (by omega) (by omega) (by omega) (by omega) (by omega))) ?_; rintro v33 w33 ⟨p, h, rfl, hpa, hpb, K33⟩
        have M33 := M29.step K33
        refine qA ?_
        refine WL.ex rfl rfl rfl (Ex.ext rfl rfl) ?_
        refine WL.ex rfl rfl rfl (Ex.ext rfl rfl) ?_
        refine qB ?_
        refine qB ?_
        refine qE ?_
        refine WC.cut (σ := Nat × Int × List Nat) (fun s => [(0, .slice (some ⟨g, 0, none⟩) n c), (1, .int .i64 (a : Int)), (2, .int .i64 (b : Int)), (3, .int .i64 (l1 : Int)), (8, .bool bal), (9, .bool prt), (10, .int .i64 ((b - a : Nat) : Int)), (11, .int .i64 (s.1 : Int)), (12, .int .i64 s.2.1)]) (fun s wr => a ≤ s.1 ∧ s.1 < b ∧ Rel a b y1 s.2.2 ∧ Mem w wr FF [ub g s.2.2 tl 23]) ?_ ?_
        ·
          refine qD ?_
          refine qA ?_
          refine WL.ex rfl rfl rfl (Ex.eqI rfl rfl) ?_
          refine qE ?_
          refine WC.cond_dec rfl (fun h50 => ?_) (fun h50 => ?_)
          · skip
            refine qD ?_
            refine qA ?_
            refine qA ?_
            refine qA ?_
            refine WL.ac rfl rfl rfl (Ac.call rfl Tryd.func123 nm123 rfl (rev_ok w33 g c n a b y1 tl (M33.get (i := 0) rfl) (by omega) (by omega) (by omega) (by omega))) ?_; rintro v44 w44 ⟨zs, hrz, T44⟩
            have M44 := M33.turned (i := 0) rfl T44
            try dsimp only [List.set] at M44
            
            refine qE ?_
            refine qD ?_
            refine qA ?_
            refine WL.ex rfl rfl rfl (Ex.sub rfl rfl (c := ((b - 1 : Nat) : Int)) (wrapN (by omega) (by omega))) ?_
            refine qA ?_
            refine qA ?_
            refine WL.ex rfl rfl rfl (Ex.sub rfl rfl (c := ((p - a : Nat) : Int)) (wrapN (by omega) (by omega))) ?_
            refine WL.ex rfl rfl rfl (Ex.sub rfl rfl (c := ((b - 1 - (p - a) : Nat) : Int)) (wrapN (by omega) (by omega))) ?_
            refine qB ?_
            refine qE ?_
            refine WC.region ?_
            refine qB ?_
            refine WL.nil ?_
            refine WX.join (((b - 1 - (p - a), 1, zs) : Nat × Int × List Nat)) ?_ (.cons rfl (.cons rfl (.cons rfl (.cons rfl (.cons rfl (.cons rfl (.cons rfl (.cons rfl (.cons rfl (.nil))))))))))
            first | exact ⟨by dsimp only; omega, by dsimp only; omega, hrz, M44⟩ | exact ⟨hpa, hpb, .refl _ _ _, M44⟩
          · skip
            refine WC.skip ?_
            refine WX.join (((p, h, y1) : Nat × Int × List Nat)) ?_ (.cons rfl (.cons rfl (.cons rfl (.cons rfl (.cons rfl (.cons rfl (.cons rfl (.cons rfl (.cons rfl (.nil))))))))))
            first | exact ⟨by dsimp only; omega, by dsimp only; omega, hrz, M33⟩ | exact ⟨hpa, hpb, .refl _ _ _, M33⟩
        · rintro ⟨p1, h1, y2⟩ w53 ⟨hpa1, hpb1, hr2, M53⟩
          dsimp only at hpa1 hpb1 hr2 M53
          refine WC.sub (env' := [(0, .slice (some ⟨g, 0, none⟩) n c), (1, .int .i64 (a : Int)), (2, .int .i64 (b : Int)), (3, .int .i64 (l1 : Int)), (8, .bool bal), (9, .bool prt), (10, .int .i64 ((b - a : Nat) : Int)), (11, .int .i64 (p1 : Int)), (12, .int .i64 h1)]) (.cons rfl (.cons rfl (.cons rfl (.cons rfl (.cons rfl (.cons rfl (.cons rfl (.cons rfl (.cons rfl (.nil)))))))))) ?_
          have hy2 := hr2.len
          have hr12 := hr1.trans hr2
          have hst2 := hst.rel hr12 (by omega) (by omega)
          have hpr2 := hpr.rel hr12
          have hrl2 := hrl.trans (hr12.mono (by omega) (by omega))
          refine WC.seq ?_
          refine qD ?_
          refine qA ?_
          refine qA ?_
          rcases Bool.eq_false_or_eq_true bal with hbal | hbal
          · subst hbal
            refine WL.yes rfl rfl rfl rfl ?_
            refine qA ?_
            refine WL.ex rfl rfl rfl (Ex.pickT rfl rfl) ?_
            refine qA ?_
            rcases Bool.eq_false_or_eq_true prt with hprt | hprt
            · subst hprt
              refine WL.yes rfl rfl rfl rfl ?_
              refine qA ?_
              refine WL.yes rfl rfl rfl rfl ?_
              refine WL.ex rfl rfl rfl (Ex.eqI rfl rfl) ?_
              refine WL.ex rfl rfl rfl (Ex.pickT rfl rfl) ?_
              refine qE ?_
              refine WC.cond_dec rfl (fun h68 => ?_) (fun h68 => ?_)
              · skip
                refine qD ?_
                refine qA ?_
                refine qA ?_
                refine qA ?_
                refine WL.ac rfl rfl rfl (Ac.call rfl Tryd.func124 nm124 rfl (pis_ok w53 g c n a b y2 tl (M53.get (i := 0) rfl) (by omega) (by omega) (by omega) (by omega) (by omega))) ?_; rintro v65 w65 ⟨r0, rfl, hr0, K65⟩
                have M65 := M53.step K65
                refine qE ?_
                refine WC.cond rfl (fun h72 => ?_) (fun h72 => ?_)
                · have hfin := hrl2
                  have hfs := hst2.done (hr0 h72)
                  refine WC.ret ?_
                  refine WX.ret_then (WX.ret_block (WX.ret_then (WX.ret_block (?_))))
                  refine WX.ret0 rfl ?_
                  subst hFF
                  exact ⟨_, hfin, hfs, M65.toTurn⟩
                · skip
                  refine WC.skip ?_
                  refine WX.next ?_
                  refine WC.seq ?_
                  refine WC.seq ?_
                  refine WC.draw (Keep nof w65.drew) [12] (.one 0 0 (.one 1 0 (.one 2 0 (.one 3 0 (.one 4 0 (.one 5 0 (.one 6 0 (.one 8 0 (.one 9 0 (.one 10 0 (.one 7 1 (.one 11 1 (.one 12 2 (.one 13 0 (.one 14 0 .nil))))))))))))))) mixed (by kernel_rfl) (by kernel_rfl) (by kernel_rfl) (HQ.then_ (HQ.then_ (HQ.block (HQ.then_ (HQ.block HQ.body))))) ?_
                  obtain ⟨w66, hw66⟩ : ∃ v, v = w65.drew := ⟨_, rfl⟩
                  have D66 : Keep nof w65 w66 := by rw [hw66]; exact Keep.drew _ _
                  have M66 := M65.step D66
                  rw [← hw66]; clear hw66
                  refine qC ?_
                  refine WP.p rfl rfl rfl rfl (fun _ => Ex.gtr rfl rfl) ?_
                  refine qC ?_
                  by_cases ha0 : (a : Int) > (0 : Int)
                  · rw [decide_eq_true ha0]
                    refine WP.py rfl rfl rfl rfl rfl rfl (fun _ => Ex.mv rfl) ?_
                    refine WP.py rfl rfl rfl rfl rfl rfl (fun _ => Ex.mv rfl) ?_
                    refine WP.py rfl rfl rfl rfl rfl rfl (fun _ => Ex.sub rfl rfl (i64w _ (by omega) (by omega))) ?_
                    refine WP.py rfl rfl rfl rfl rfl rfl (fun _ => Ex.ia Tryd.underlying67 sz23 rfl rfl ⟨by omega, by omega⟩) ?_
                    refine WP.py rfl rfl rfl rfl rfl rfl (fun _ => Ex.mv rfl) ?_
                    refine WP.py rfl rfl rfl rfl rfl rfl (fun _ => Ex.mv rfl) ?_
                    refine WP.py rfl rfl rfl rfl rfl rfl (fun _ => Ex.ia Tryd.underlying67 sz23 rfl rfl ⟨by omega, by omega⟩) ?_
                    refine WP.qy (Keep.refl _ _) rfl rfl rfl rfl rfl rfl (fun w' hS => Ex.load ty23 rfl (hS.cell (ub_rd (M66.get (i := 0) rfl) (k := a - 1) (by omega) (by omega)) (fun f => f))) ?_
                    refine WP.qy (Keep.refl _ _) rfl rfl rfl rfl rfl rfl (fun w' hS => Ex.load ty23 rfl (hS.cell (ub_rd (M66.get (i := 0) rfl) (k := p1) (by omega) (by omega)) (fun f => f))) ?_
                    refine WP.ay rfl rfl rfl rfl rfl rfl (Ac.call rfl Tryd.func125 nm125 rfl (less_ok w66 (gv y2 (a - 1)) (gv y2 (p1)))) ?_; rintro v79 w79 ⟨rfl, K79⟩; refine .inl ⟨rfl, Keep nof w79, ?_⟩
                    have M79 := M66.step K79
                    refine WP.py rfl rfl rfl rfl rfl rfl (fun _ => Ex.not rfl) ?_
                    refine WP.p rfl rfl rfl rfl (fun _ => Ex.pickT rfl rfl) ?_
                    refine WP.nil ?_
                    refine WX.next ?_
                    refine WC.cond rfl (fun h87 => ?_) (fun h87 => ?_)
                    · have h87b : ¬ gv y2 (a - 1) < gv y2 p1 := by simpa using h87
                      refine qD ?_
                      refine qA ?_
                      refine qA ?_
                      refine qA ?_
                      refine qA ?_
                      refine WL.ac rfl rfl rfl (Ac.call rfl Tryd.func126 nm126 rfl (parte_ok w79 g c n a b p1 y2 tl (M79.get (i := 0) rfl) (by omega) (by omega) (by omega) (by omega) (by omega))) ?_; rintro v86 w86 ⟨zs, m, rfl, hm1, hm2, hrz, hle, hgt, T86⟩
                      have M86 := M79.turned (i := 0) rfl T86
                      try dsimp only [List.set] at M86
                      have hnr := hrl2.trans (hrz.mono (by omega) (by omega))
                      obtain ⟨hns, hnp⟩ := hst2.eqp hrz (by omega) (by omega) hm1 hm2 (fun k h1 h2 => Nat.le_trans (by omega) (hpr2 (by omega) k h1 h2)) hle hgt
                      refine qB ?_
                      refine qE ?_
                      refine qD ?_
                      refine qA ?_
                      refine qB ?_
                      refine qE ?_
                      refine WC.exit ?_
                      refine WX.exit_then (WX.exit_block (?_))
                      refine WX.again (((m, b, l1, true, true, zs) : Nat × Nat × Nat × Bool × Bool × List Nat)) ?_ ?_ (.cons rfl (.cons rfl (.cons rfl (.cons rfl (.cons rfl (.cons rfl (.nil)))))))
                      · dsimp only; omega
                      · exact ⟨by dsimp only; omega, by dsimp only; omega, by dsimp only; omega, hl1, hnr, hns, hnp, M86⟩
                    · skip
                      refine WC.skip ?_
                      refine WX.next ?_
                      refine qD ?_
                      refine qA ?_
                      refine qA ?_
                      refine qA ?_
                      refine qA ?_
                      refine WL.ac rfl rfl rfl (Ac.call rfl Tryd.func127 nm127 rfl (part_ok w79 g c n a b p1 y2 tl (M79.get (i := 0) rfl) (by omega) (by omega) (by omega) (by omega) (by omega))) ?_; rintro v94 w94 ⟨zs, m, r, rfl, hrz, hpt, T94⟩
                      have M94 := M79.turned (i := 0) rfl T94
                      try dsimp only [List.set] at M94
                      have hm1 := hpt.lo
                      have hm2 := hpt.hi
                      have hzl := hrz.len
                      have hst3 := hst2.rel hrz (by omega) (by omega)
                      have hpr3 := hpr2.rel hrz
                      have hrl3 := hrl2.trans (hrz.mono (by omega) (by omega))
                      refine qA ?_
                      refine WL.ex rfl rfl rfl (Ex.ext rfl rfl) ?_
                      refine WL.ex rfl rfl rfl (Ex.ext rfl rfl) ?_
                      refine qB ?_
                      refine qB ?_
                      refine qE ?_
                      refine qD ?_
                      refine qA ?_
                      refine qB ?_
                      refine qE ?_
                      refine qD ?_
                      refine qA ?_
                      refine qA ?_
                      refine WL.ex rfl rfl rfl (Ex.sub rfl rfl (c := ((m - a : Nat) : Int)) (wrapN (by omega) (by omega))) ?_
                      refine qA ?_
                      refine qA ?_
                      refine WL.ex rfl rfl rfl (Ex.sub rfl rfl (c := ((b - m : Nat) : Int)) (wrapN (by omega) (by omega))) ?_
                      refine qB ?_
                      refine qB ?_
                      refine qE ?_
                      refine qD ?_
                      refine qA ?_
                      refine WL.ex rfl rfl rfl (Ex.quo rfl rfl (by omega) (c := (((b - a) / 8 : Nat) : Int)) (by rw [Int.tdiv_eq_ediv_of_nonneg (by omega)]; exact wrapI (by omega) (by omega) (by omega))) ?_
                      refine qB ?_
                      refine qE ?_
                      refine qD ?_
                      refine qA ?_
                      refine qA ?_
                      refine WL.ex rfl rfl rfl (Ex.lss rfl rfl) ?_
                      refine qE ?_
                      refine WC.cond_dec rfl (fun h113 => ?_) (fun h113 => ?_)
                      · skip
                        refine qD ?_
                        refine qA ?_
                        refine qA ?_
                        refine WL.ex rfl rfl rfl (Ex.geq rfl rfl) ?_
                        refine qB ?_
                        refine qE ?_
                        refine qD ?_
                        refine qA ?_
                        refine qA ?_
                        refine qA ?_
                        refine qA ?_
                        refine WL.ac rfl rfl rfl (Ac.call rfl Tryd.func106 nm106 rfl (ih w94 g c n a m l1 zs tl (M94.get (i := 0) rfl) (by omega) (by omega) (by omega) hn50 hl1 (by omega) (hpr3.left hm2))) ?_; rintro v124 w124 ⟨ws, hrw, hsw, T124⟩
                        have M124 := M94.turned (i := 0) rfl T124
                        try dsimp only [List.set] at M124
                        have hnr := hrl3.trans (hrw.mono (by omega) (by omega))
                        obtain ⟨hns, hnp⟩ := hst3.left hpt hrw hsw (by omega) (by omega)
                        refine qE ?_
                        refine WC.region ?_
                        refine qA ?_
                        refine WL.ex rfl rfl rfl (Ex.add rfl rfl (c := ((m + 1 : Nat) : Int)) (wrapN (by omega) (by omega))) ?_
                        refine qB ?_
                        refine WL.nil ?_
                        refine WX.normal_block (?_)
                        refine WX.again (((m + 1, b, l1, decide ((((b - a) / 8 : Nat) : Int) ≤ ((m - a : Nat) : Int)), r, ws) : Nat × Nat × Nat × Bool × Bool × List Nat)) ?_ ?_ (.cons rfl (.cons rfl (.cons rfl (.cons rfl (.cons rfl (.cons rfl (.nil)))))))
                        · dsimp only; omega
                        · exact ⟨by dsimp only; omega, by dsimp only; omega, by dsimp only; omega, hl1, hnr, hns, hnp, M124⟩
                      · skip
                        refine qD ?_
                        refine qA ?_
                        refine qA ?_
                        refine WL.ex rfl rfl rfl (Ex.geq rfl rfl) ?_
                        refine qB ?_
                        refine qE ?_
                        refine qD ?_
                        refine qA ?_
                        refine qA ?_
                        refine WL.ex rfl rfl rfl (Ex.add rfl rfl (c := ((m + 1 : Nat) : Int)) (wrapN (by omega) (by omega))) ?_
                        refine qA ?_
                        refine qA ?_
                        refine WL.ac rfl rfl rfl (Ac.call rfl Tryd.func106 nm106 rfl (ih w94 g c n (m + 1) b l1 zs tl (M94.get (i := 0) rfl) (by omega) (by omega) (by omega) hn50 hl1 (by omega) (.right hpt))) ?_; rintro v137 w137 ⟨ws, hrw, hsw, T137⟩
                        have M137 := M94.turned (i := 0) rfl T137
                        try dsimp only [List.set] at M137
                        have hnr := hrl3.trans (hrw.mono (by omega) (by omega))
                        obtain ⟨hns, hnp⟩ := hst3.right hpr3 hpt hrw hsw (by omega) (by omega)
                        refine qE ?_
                        refine WC.region ?_
                        refine qA ?_
                        refine qB ?_
                        refine WL.nil ?_
                        refine WX.normal_block (?_)
                        refine WX.again (((a, m, l1, decide ((((b - a) / 8 : Nat) : Int) ≤ ((b - m : Nat) : Int)), r, ws) : Nat × Nat × Nat × Bool × Bool × List Nat)) ?_ ?_ (.cons rfl (.cons rfl (.cons rfl (.cons rfl (.cons rfl (.cons rfl (.nil)))))))
                        · dsimp only; omega
                        · exact ⟨by dsimp only; omega, by dsimp only; omega, by dsimp only; omega, hl1, hnr, hns, hnp, M137⟩
                  · rw [decide_eq_false ha0]
                    refine WP.no rfl rfl rfl rfl rfl rfl rfl ?_
                    refine WP.no rfl rfl rfl rfl rfl rfl rfl ?_
                    refine WP.no rfl rfl rfl rfl rfl rfl rfl ?_
                    refine WP.no rfl rfl rfl rfl rfl rfl rfl ?_
                    refine WP.no rfl rfl rfl rfl rfl rfl rfl ?_
                    refine WP.no rfl rfl rfl rfl rfl rfl rfl ?_
                    refine WP.no rfl rfl rfl rfl rfl rfl rfl ?_
                    refine WP.no1 (Keep.refl _ _) rfl rfl rfl rfl rfl rfl rfl ?_
                    refine WP.no1 (Keep.refl _ _) rfl rfl rfl rfl rfl rfl rfl ?_
                    refine WP.no2 rfl rfl rfl rfl rfl rfl rfl ?_
                    refine WP.no rfl rfl rfl rfl rfl rfl rfl ?_
                    refine WP.p rfl rfl rfl rfl (fun _ => Ex.pickF rfl rfl) ?_
                    refine WP.nil ?_
                    refine WX.next ?_
                    refine WC.no rfl ?_
                    refine WC.skip ?_
                    refine WX.next ?_
                    refine qD ?_
                    refine qA ?_
                    refine qA ?_
                    refine qA ?_
                    refine qA ?_
                    refine WL.ac rfl rfl rfl (Ac.call rfl Tryd.func127 nm127 rfl (part_ok w66 g c n a b p1 y2 tl (M66.get (i := 0) rfl) (by omega) (by omega) (by omega) (by omega) (by omega))) ?_; rintro v145 w145 ⟨zs, m, r, rfl, hrz, hpt, T145⟩
                    have M145 := M66.turned (i := 0) rfl T145
                    try dsimp only [List.set] at M145
                    have hm1 := hpt.lo
                    have hm2 := hpt.hi
                    have hzl := hrz.len
                    have hst3 := hst2.rel hrz (by omega) (by omega)
                    have hpr3 := hpr2.rel hrz
                    have hrl3 := hrl2.trans (hrz.mono (by omega) (by omega))
                    refine qA ?_
                    refine WL.ex rfl rfl rfl (Ex.ext rfl rfl) ?_
                    refine WL.ex rfl rfl rfl (Ex.ext rfl rfl) ?_
                    refine qB ?_
                    refine qB ?_
                    refine qE ?_
                    refine qD ?_
                    refine qA ?_
                    refine qB ?_
                    refine qE ?_
                    refine qD ?_
                    refine qA ?_
                    refine qA ?_
                    refine WL.ex rfl rfl rfl (Ex.sub rfl rfl (c := ((m - a : Nat) : Int)) (wrapN (by omega) (by omega))) ?_
                    refine qA ?_
                    refine qA ?_
                    refine WL.ex rfl rfl rfl (Ex.sub rfl rfl (c := ((b - m : Nat) : Int)) (wrapN (by omega) (by omega))) ?_
                    refine qB ?_
                    refine qB ?_
                    refine qE ?_
                    refine qD ?_
                    refine qA ?_
                    refine WL.ex rfl rfl rfl (Ex.quo rfl rfl (by omega) (c := (((b - a) / 8 : Nat) : Int)) (by rw [Int.tdiv_eq_ediv_of_nonneg (by omega)]; exact wrapI (by omega) (by omega) (by omega))) ?_
                    refine qB ?_
                    refine qE ?_
                    refine qD ?_
                    refine qA ?_
                    refine qA ?_
                    refine WL.ex rfl rfl rfl (Ex.lss rfl rfl) ?_
                    refine qE ?_
                    refine WC.cond_dec rfl (fun h113 => ?_) (fun h113 => ?_)
                    · skip
                      refine qD ?_
                      refine qA ?_
                      refine qA ?_
                      refine WL.ex rfl rfl rfl (Ex.geq rfl rfl) ?_
                      refine qB ?_
                      refine qE ?_
                      refine qD ?_
                      refine qA ?_
                      refine qA ?_
                      refine qA ?_
                      refine qA ?_
                      refine WL.ac rfl rfl rfl (Ac.call rfl Tryd.func106 nm106 rfl (ih w145 g c n a m l1 zs tl (M145.get (i := 0) rfl) (by omega) (by omega) (by omega) hn50 hl1 (by omega) (hpr3.left hm2))) ?_; rintro v175 w175 ⟨ws, hrw, hsw, T175⟩
                      have M175 := M145.turned (i := 0) rfl T175
                      try dsimp only [List.set] at M175
                      have hnr := hrl3.trans (hrw.mono (by omega) (by omega))
                      obtain ⟨hns, hnp⟩ := hst3.left hpt hrw hsw (by omega) (by omega)
                      refine qE ?_
                      refine WC.region ?_
                      refine qA ?_
                      refine WL.ex rfl rfl rfl (Ex.add rfl rfl (c := ((m + 1 : Nat) : Int)) (wrapN (by omega) (by omega))) ?_
                      refine qB ?_
                      refine WL.nil ?_
                      refine WX.normal_block (?_)
                      refine WX.again (((m + 1, b, l1, decide ((((b - a) / 8 : Nat) : Int) ≤ ((m - a : Nat) : Int)), r, ws) : Nat × Nat × Nat × Bool × Bool × List Nat)) ?_ ?_ (.cons rfl (.cons rfl (.cons rfl (.cons rfl (.cons rfl (.cons rfl (.nil)))))))
                      · dsimp only; omega
                      · exact ⟨by dsimp only; omega, by dsimp only; omega, by dsimp only; omega, hl1, hnr, hns, hnp, M175⟩
                    · skip
                      refine qD ?_
                      refine qA ?_
                      refine qA ?_
                      refine WL.ex rfl rfl rfl (Ex.geq rfl rfl) ?_
                      refine qB ?_
                      refine qE ?_
                      refine qD ?_
                      refine qA ?_
                      refine qA ?_
                      refine WL.ex rfl rfl rfl (Ex.add rfl rfl (c := ((m + 1 : Nat) : Int)) (wrapN (by omega) (by omega))) ?_
                      refine qA ?_
                      refine qA ?_
                      refine WL.ac rfl rfl rfl (Ac.call rfl Tryd.func106 nm106 rfl (ih w145 g c n (m + 1) b l1 zs tl (M145.get (i := 0) rfl) (by omega) (by omega) (by omega) hn50 hl1 (by omega) (.right hpt))) ?_; rintro v188 w188 ⟨ws, hrw, hsw, T188⟩
                      have M188 := M145.turned (i := 0) rfl T188
                      try dsimp only [List.set] at M188
                      have hnr := hrl3.trans (hrw.mono (by omega) (by omega))
                      obtain ⟨hns, hnp⟩ := hst3.right hpr3 hpt hrw hsw (by omega) (by omega)
                      refine qE ?_
                      refine WC.region ?_
                      refine qA ?_
                      refine qB ?_
                      refine WL.nil ?_
                      refine WX.normal_block (?_)
                      refine WX.again (((a, m, l1, decide ((((b - a) / 8 : Nat) : Int) ≤ ((b - m : Nat) : Int)), r, ws) : Nat × Nat × Nat × Bool × Bool × List Nat)) ?_ ?_ (.cons rfl (.cons rfl (.cons rfl (.cons rfl (.cons rfl (.cons rfl (.nil)))))))
                      · dsimp only; omega
                      · exact ⟨by dsimp only; omega, by dsimp only; omega, by dsimp only; omega, hl1, hnr, hns, hnp, M188⟩
              · skip
                refine WC.skip ?_
                refine WX.next ?_
                refine WC.seq ?_
                refine WC.seq ?_
                refine WC.draw (Keep nof w53.drew) [12] (.one 0 0 (.one 1 0 (.one 2 0 (.one 3 0 (.one 4 0 (.one 5 0 (.one 6 0 (.one 8 0 (.one 9 0 (.one 10 0 (.one 7 1 (.one 11 1 (.one 12 2 (.one 13 0 (.one 14 0 .nil))))))))))))))) mixed (by kernel_rfl) (by kernel_rfl) (by kernel_rfl) (HQ.then_ (HQ.then_ (HQ.block (HQ.then_ (HQ.block HQ.body))))) ?_
                obtain ⟨w191, hw191⟩ : ∃ v, v = w53.drew := ⟨_, rfl⟩
                have D191 : Keep nof w53 w191 := by rw [hw191]; exact Keep.drew _ _
                have M191 := M53.step D191
                rw [← hw191]; clear hw191
                refine qC ?_
                refine WP.p rfl rfl rfl rfl (fun _ => Ex.gtr rfl rfl) ?_
                refine qC ?_
                by_cases ha0 : (a : Int) > (0 : Int)
                · rw [decide_eq_true ha0]
                  refine WP.py rfl rfl rfl rfl rfl rfl (fun _ => Ex.mv rfl) ?_
                  refine WP.py rfl rfl rfl rfl rfl rfl (fun _ => Ex.mv rfl) ?_
                  refine WP.py rfl rfl rfl rfl rfl rfl (fun _ => Ex.sub rfl rfl (i64w _ (by omega) (by omega))) ?_
                  refine WP.py rfl rfl rfl rfl rfl rfl (fun _ => Ex.ia Tryd.underlying67 sz23 rfl rfl ⟨by omega, by omega⟩) ?_
                  refine WP.py rfl rfl rfl rfl rfl rfl (fun _ => Ex.mv rfl) ?_
                  refine WP.py rfl rfl rfl rfl rfl rfl (fun _ => Ex.mv rfl) ?_
                  refine WP.py rfl rfl rfl rfl rfl rfl (fun _ => Ex.ia Tryd.underlying67 sz23 rfl rfl ⟨by omega, by omega⟩) ?_
                  refine WP.qy (Keep.refl _ _) rfl rfl rfl rfl rfl rfl (fun w' hS => Ex.load ty23 rfl (hS.cell (ub_rd (M191.get (i := 0) rfl) (k := a - 1) (by omega) (by omega)) (fun f => f))) ?_
                  refine WP.qy (Keep.refl _ _) rfl rfl rfl rfl rfl rfl (fun w' hS => Ex.load ty23 rfl (hS.cell (ub_rd (M191.get (i := 0) rfl) (k := p1) (by omega) (by omega)) (fun f => f))) ?_
                  refine WP.ay rfl rfl rfl rfl rfl rfl (Ac.call rfl Tryd.func125 nm125 rfl (less_ok w191 (gv y2 (a - 1)) (gv y2 (p1)))) ?_; rintro v204 w204 ⟨rfl, K204⟩; refine .inl ⟨rfl, Keep nof w204, ?_⟩
                  have M204 := M191.step K204
                  refine WP.py rfl rfl rfl rfl rfl rfl (fun _ => Ex.not rfl) ?_
                  refine WP.p rfl rfl rfl rfl (fun _ => Ex.pickT rfl rfl) ?_
                  refine WP.nil ?_
                  refine WX.next ?_
                  refine WC.cond rfl (fun h87 => ?_) (fun h87 => ?_)
                  · have h87b : ¬ gv y2 (a - 1) < gv y2 p1 := by simpa using h87
                    refine qD ?_
                    refine qA ?_
                    refine qA ?_
                    refine qA ?_
                    refine qA ?_
                    refine WL.ac rfl rfl rfl (Ac.call rfl Tryd.func126 nm126 rfl (parte_ok w204 g c n a b p1 y2 tl (M204.get (i := 0) rfl) (by omega) (by omega) (by omega) (by omega) (by omega))) ?_; rintro v211 w211 ⟨zs, m, rfl, hm1, hm2, hrz, hle, hgt, T211⟩
                    have M211 := M204.turned (i := 0) rfl T211
                    try dsimp only [List.set] at M211
                    have hnr := hrl2.trans (hrz.mono (by omega) (by omega))
                    obtain ⟨hns, hnp⟩ := hst2.eqp hrz (by omega) (by omega) hm1 hm2 (fun k h1 h2 => Nat.le_trans (by omega) (hpr2 (by omega) k h1 h2)) hle hgt
                    refine qB ?_
                    refine qE ?_
                    refine qD ?_
                    refine qA ?_
                    refine qB ?_
                    refine qE ?_
                    refine WC.exit ?_
                    refine WX.exit_then (WX.exit_block (?_))
                    refine WX.again (((m, b, l1, true, true, zs) : Nat × Nat × Nat × Bool × Bool × List Nat)) ?_ ?_ (.cons rfl (.cons rfl (.cons rfl (.cons rfl (.cons rfl (.cons rfl (.nil)))))))
                    · dsimp only; omega
                    · exact ⟨by dsimp only; omega, by dsimp only; omega, by dsimp only; omega, hl1, hnr, hns, hnp, M211⟩
                  · skip
                    refine WC.skip ?_
                    refine WX.next ?_
                    refine qD ?_
                    refine qA ?_
                    refine qA ?_
                    refine qA ?_
                    refine qA ?_
                    refine WL.ac rfl rfl rfl (Ac.call rfl Tryd.func127 nm127 rfl (part_ok w204 g c n a b p1 y2 tl (M204.get (i := 0) rfl) (by omega) (by omega) (by omega) (by omega) (by omega))) ?_; rintro v219 w219 ⟨zs, m, r, rfl, hrz, hpt, T219⟩
                    have M219 := M204.turned (i := 0) rfl T219
                    try dsimp only [List.set] at M219
                    have hm1 := hpt.lo
                    have hm2 := hpt.hi
                    have hzl := hrz.len
                    have hst3 := hst2.rel hrz (by omega) (by omega)
                    have hpr3 := hpr2.rel hrz
                    have hrl3 := hrl2.trans (hrz.mono (by omega) (by omega))
                    refine qA ?_
                    refine WL.ex rfl rfl rfl (Ex.ext rfl rfl) ?_
                    refine WL.ex rfl rfl rfl (Ex.ext rfl rfl) ?_
                    refine qB ?_
                    refine qB ?_
                    refine qE ?_
                    refine qD ?_
                    refine qA ?_
                    refine qB ?_
                    refine qE ?_
                    refine qD ?_
                    refine qA ?_
                    refine qA ?_
                    refine WL.ex rfl rfl rfl (Ex.sub rfl rfl (c := ((m - a : Nat) : Int)) (wrapN (by omega) (by omega))) ?_
                    refine qA ?_
                    refine qA ?_
                    refine WL.ex rfl rfl rfl (Ex.sub rfl rfl (c := ((b - m : Nat) : Int)) (wrapN (by omega) (by omega))) ?_
                    refine qB ?_
                    refine qB ?_
                    refine qE ?_
                    refine qD ?_
                    refine qA ?_
                    refine WL.ex rfl rfl rfl (Ex.quo rfl rfl (by omega) (c := (((b - a) / 8 : Nat) : Int)) (by rw [Int.tdiv_eq_ediv_of_nonneg (by omega)]; exact wrapI (by omega) (by omega) (by omega))) ?_
                    refine qB ?_
                    refine qE ?_
                    refine qD ?_
                    refine qA ?_
                    refine qA ?_
                    refine WL.ex rfl rfl rfl (Ex.lss rfl rfl) ?_
                    refine qE ?_
                    refine WC.cond_dec rfl (fun h113 => ?_) (fun h113 => ?_)
                    · skip
                      refine qD ?_
                      refine qA ?_
                      refine qA ?_
                      refine WL.ex rfl rfl rfl (Ex.geq rfl rfl) ?_
                      refine qB ?_
                      refine qE ?_
                      refine qD ?_
                      refine qA ?_
                      refine qA ?_
                      refine qA ?_
                      refine qA ?_
                      refine WL.ac rfl rfl rfl (Ac.call rfl Tryd.func106 nm106 rfl (ih w219 g c n a m l1 zs tl (M219.get (i := 0) rfl) (by omega) (by omega) (by omega) hn50 hl1 (by omega) (hpr3.left hm2))) ?_; rintro v249 w249 ⟨ws, hrw, hsw, T249⟩
                      have M249 := M219.turned (i := 0) rfl T249
                      try dsimp only [List.set] at M249
                      have hnr := hrl3.trans (hrw.mono (by omega) (by omega))
                      obtain ⟨hns, hnp⟩ := hst3.left hpt hrw hsw (by omega) (by omega)
                      refine qE ?_
                      refine WC.region ?_
                      refine qA ?_
                      refine WL.ex rfl rfl rfl (Ex.add rfl rfl (c := ((m + 1 : Nat) : Int)) (wrapN (by omega) (by omega))) ?_
                      refine qB ?_
                      refine WL.nil ?_
                      refine WX.normal_block (?_)
                      refine WX.again (((m + 1, b, l1, decide ((((b - a) / 8 : Nat) : Int) ≤ ((m - a : Nat) : Int)), r, ws) : Nat × Nat × Nat × Bool × Bool × List Nat)) ?_ ?_ (.cons rfl (.cons rfl (.cons rfl (.cons rfl (.cons rfl (.cons rfl (.nil)))))))
                      · dsimp only; omega
                      · exact ⟨by dsimp only; omega, by dsimp only; omega, by dsimp only; omega, hl1, hnr, hns, hnp, M249⟩
                    · skip
                      refine qD ?_
                      refine qA ?_
                      refine qA ?_
                      refine WL.ex rfl rfl rfl (Ex.geq rfl rfl) ?_
                      refine qB ?_
                      refine qE ?_
                      refine qD ?_
                      refine qA ?_
                      refine qA ?_
                      refine WL.ex rfl rfl rfl (Ex.add rfl rfl (c := ((m + 1 : Nat) : Int)) (wrapN (by omega) (by omega))) ?_
                      refine qA ?_
                      refine qA ?_
                      refine WL.ac rfl rfl rfl (Ac.call rfl Tryd.func106 nm106 rfl (ih w219 g c n (m + 1) b l1 zs tl (M219.get (i := 0) rfl) (by omega) (by omega) (by omega) hn50 hl1 (by omega) (.right hpt))) ?_; rintro v262 w262 ⟨ws, hrw, hsw, T262⟩
                      have M262 := M219.turned (i := 0) rfl T262
                      try dsimp only [List.set] at M262
                      have hnr := hrl3.trans (hrw.mono (by omega) (by omega))
                      obtain ⟨hns, hnp⟩ := hst3.right hpr3 hpt hrw hsw (by omega) (by omega)
                      refine qE ?_
                      refine WC.region ?_
                      refine qA ?_
                      refine qB ?_
                      refine WL.nil ?_
                      refine WX.normal_block (?_)
                      refine WX.again (((a, m, l1, decide ((((b - a) / 8 : Nat) : Int) ≤ ((b - m : Nat) : Int)), r, ws) : Nat × Nat × Nat × Bool × Bool × List Nat)) ?_ ?_ (.cons rfl (.cons rfl (.cons rfl (.cons rfl (.cons rfl (.cons rfl (.nil)))))))
                      · dsimp only; omega
                      · exact ⟨by dsimp only; omega, by dsimp only; omega, by dsimp only; omega, hl1, hnr, hns, hnp, M262⟩
                · rw [decide_eq_false ha0]
                  refine WP.no rfl rfl rfl rfl rfl rfl rfl ?_
                  refine WP.no rfl rfl rfl rfl rfl rfl rfl ?_
                  refine WP.no rfl rfl rfl rfl rfl rfl rfl ?_
                  refine WP.no rfl rfl rfl rfl rfl rfl rfl ?_
                  refine WP.no rfl rfl rfl rfl rfl rfl rfl ?_
                  refine WP.no rfl rfl rfl rfl rfl rfl rfl ?_
                  refine WP.no rfl rfl rfl rfl rfl rfl rfl ?_
                  refine WP.no1 (Keep.refl _ _) rfl rfl rfl rfl rfl rfl rfl ?_
                  refine WP.no1 (Keep.refl _ _) rfl rfl rfl rfl rfl rfl rfl ?_
                  refine WP.no2 rfl rfl rfl rfl rfl rfl rfl ?_
                  refine WP.no rfl rfl rfl rfl rfl rfl rfl ?_
                  refine WP.p rfl rfl rfl rfl (fun _ => Ex.pickF rfl rfl) ?_
                  refine WP.nil ?_
                  refine WX.next ?_
                  refine WC.no rfl ?_
                  refine WC.skip ?_
                  refine WX.next ?_
                  refine qD ?_
                  refine qA ?_
                  refine qA ?_
                  refine qA ?_
                  refine qA ?_
                  refine WL.ac rfl rfl rfl (Ac.call rfl Tryd.func127 nm127 rfl (part_ok w191 g c n a b p1 y2 tl (M191.get (i := 0) rfl) (by omega) (by omega) (by omega) (by omega) (by omega))) ?_; rintro v270 w270 ⟨zs, m, r, rfl, hrz, hpt, T270⟩
                  have M270 := M191.turned (i := 0) rfl T270
                  try dsimp only [List.set] at M270
                  have hm1 := hpt.lo
                  have hm2 := hpt.hi
                  have hzl := hrz.len
                  have hst3 := hst2.rel hrz (by omega) (by omega)
                  have hpr3 := hpr2.rel hrz
                  have hrl3 := hrl2.trans (hrz.mono (by omega) (by omega))
                  refine qA ?_
                  refine WL.ex rfl rfl rfl (Ex.ext rfl rfl) ?_
                  refine WL.ex rfl rfl rfl (Ex.ext rfl rfl) ?_
                  refine qB ?_
                  refine qB ?_
                  refine qE ?_
                  refine qD ?_
                  refine qA ?_
                  refine qB ?_
                  refine qE ?_
                  refine qD ?_
                  refine qA ?_
                  refine qA ?_
                  refine WL.ex rfl rfl rfl (Ex.sub rfl rfl (c := ((m - a : Nat) : Int)) (wrapN (by omega) (by omega))) ?_
                  refine qA ?_
                  refine qA ?_
                  refine WL.ex rfl rfl rfl (Ex.sub rfl rfl (c := ((b - m : Nat) : Int)) (wrapN (by omega) (by omega))) ?_
                  refine qB ?_
                  refine qB ?_
                  refine qE ?_
                  refine qD ?_
                  refine qA ?_
                  refine WL.ex rfl rfl rfl (Ex.quo rfl rfl (by omega) (c := (((b - a) / 8 : Nat) : Int)) (by rw [Int.tdiv_eq_ediv_of_nonneg (by omega)]; exact wrapI (by omega) (by omega) (by omega))) ?_
                  refine qB ?_
                  refine qE ?_
                  refine qD ?_
                  refine qA ?_
                  refine qA ?_
                  refine WL.ex rfl rfl rfl (Ex.lss rfl rfl) ?_
                  refine qE ?_
                  refine WC.cond_dec rfl (fun h113 => ?_) (fun h113 => ?_)
                  · skip
                    refine qD ?_
                    refine qA ?_
                    refine qA ?_
                    refine WL.ex rfl rfl rfl (Ex.geq rfl rfl) ?_
                    refine qB ?_
                    refine qE ?_
                    refine qD ?_
                    refine qA ?_
                    refine qA ?_
                    refine qA ?_
                    refine qA ?_
                    refine WL.ac rfl rfl rfl (Ac.call rfl Tryd.func106 nm106 rfl (ih w270 g c n a m l1 zs tl (M270.get (i := 0) rfl) (by omega) (by omega) (by omega) hn50 hl1 (by omega) (hpr3.left hm2))) ?_; rintro v300 w300 ⟨ws, hrw, hsw, T300⟩
                    have M300 := M270.turned (i := 0) rfl T300
                    try dsimp only [List.set] at M300
                    have hnr := hrl3.trans (hrw.mono (by omega) (by omega))
                    obtain ⟨hns, hnp⟩ := hst3.left hpt hrw hsw (by omega) (by omega)
                    refine qE ?_
                    refine WC.region ?_
                    refine qA ?_
                    refine WL.ex rfl rfl rfl (Ex.add rfl rfl (c := ((m + 1 : Nat) : Int)) (wrapN (by omega) (by omega))) ?_
                    refine qB ?_
                    refine WL.nil ?_
                    refine WX.normal_block (?_)
                    refine WX.again (((m + 1, b, l1, decide ((((b - a) / 8 : Nat) : Int) ≤ ((m - a : Nat) : Int)), r, ws) : Nat × Nat × Nat × Bool × Bool × List Nat)) ?_ ?_ (.cons rfl (.cons rfl (.cons rfl (.cons rfl (.cons rfl (.cons rfl (.nil)))))))
                    · dsimp only; omega
                    · exact ⟨by dsimp only; omega, by dsimp only; omega, by dsimp only; omega, hl1, hnr, hns, hnp, M300⟩
                  · skip
                    refine qD ?_
                    refine qA ?_
                    refine qA ?_
                    refine WL.ex rfl rfl rfl (Ex.geq rfl rfl) ?_
                    refine qB ?_
                    refine qE ?_
                    refine qD ?_
                    refine qA ?_
                    refine qA ?_
                    refine WL.ex rfl rfl rfl (Ex.add rfl rfl (c := ((m + 1 : Nat) : Int)) (wrapN (by omega) (by omega))) ?_
                    refine qA ?_
                    refine qA ?_
                    refine WL.ac rfl rfl rfl (Ac.call rfl Tryd.func106 nm106 rfl (ih w270 g c n (m + 1) b l1 zs tl (M270.get (i := 0) rfl) (by omega) (by omega) (by omega) hn50 hl1 (by omega) (.right hpt))) ?_; rintro v313 w313 ⟨ws, hrw, hsw, T313⟩
                    have M313 := M270.turned (i := 0) rfl T313
                    try dsimp only [List.set] at M313
                    have hnr := hrl3.trans (hrw.mono (by omega) (by omega))
                    obtain ⟨hns, hnp⟩ := hst3.right hpr3 hpt hrw hsw (by omega) (by omega)
                    refine qE ?_
                    refine WC.region ?_
                    refine qA ?_
                    refine qB ?_
                    refine WL.nil ?_
                    refine WX.normal_block (?_)
                    refine WX.again (((a, m, l1, decide ((((b - a) / 8 : Nat) : Int) ≤ ((b - m : Nat) : Int)), r, ws) : Nat × Nat × Nat × Bool × Bool × List Nat)) ?_ ?_ (.cons rfl (.cons rfl (.cons rfl (.cons rfl (.cons rfl (.cons rfl (.nil)))))))
                    · dsimp only; omega
                    · exact ⟨by dsimp only; omega, by dsimp only; omega, by dsimp only; omega, hl1, hnr, hns, hnp, M313⟩
            · subst hprt
              refine WL.no rfl rfl rfl rfl rfl rfl ?_
              refine WL.no rfl rfl rfl rfl rfl rfl ?_
              refine WL.ex rfl rfl rfl (Ex.pickF rfl rfl) ?_
              refine qE ?_
              refine WC.no rfl ?_
              refine WC.skip ?_
              refine WX.next ?_
              refine WC.seq ?_
              refine WC.seq ?_
              refine WC.draw (Keep nof w53.drew) [12] (.one 0 0 (.one 1 0 (.one 2 0 (.one 3 0 (.one 4 0 (.one 5 0 (.one 6 0 (.one 8 0 (.one 9 0 (.one 10 0 (.one 7 1 (.one 11 1 (.one 12 2 (.one 13 0 (.one 14 0 .nil))))))))))))))) mixed (by kernel_rfl) (by kernel_rfl) (by kernel_rfl) (HQ.then_ (HQ.then_ (HQ.block (HQ.then_ (HQ.block HQ.body))))) ?_
              obtain ⟨w317, hw317⟩ : ∃ v, v = w53.drew := ⟨_, rfl⟩
              have D317 : Keep nof w53 w317 := by rw [hw317]; exact Keep.drew _ _
              have M317 := M53.step D317
              rw [← hw317]; clear hw317
              refine qC ?_
              refine WP.p rfl rfl rfl rfl (fun _ => Ex.gtr rfl rfl) ?_
              refine qC ?_
              by_cases ha0 : (a : Int) > (0 : Int)
              · rw [decide_eq_true ha0]
                refine WP.py rfl rfl rfl rfl rfl rfl (fun _ => Ex.mv rfl) ?_
                refine WP.py rfl rfl rfl rfl rfl rfl (fun _ => Ex.mv rfl) ?_
                refine WP.py rfl rfl rfl rfl rfl rfl (fun _ => Ex.sub rfl rfl (i64w _ (by omega) (by omega))) ?_
                refine WP.py rfl rfl rfl rfl rfl rfl (fun _ => Ex.ia Tryd.underlying67 sz23 rfl rfl ⟨by omega, by omega⟩) ?_
                refine WP.py rfl rfl rfl rfl rfl rfl (fun _ => Ex.mv rfl) ?_
                refine WP.py rfl rfl rfl rfl rfl rfl (fun _ => Ex.mv rfl) ?_
                refine WP.py rfl rfl rfl rfl rfl rfl (fun _ => Ex.ia Tryd.underlying67 sz23 rfl rfl ⟨by omega, by omega⟩) ?_
                refine WP.qy (Keep.refl _ _) rfl rfl rfl rfl rfl rfl (fun w' hS => Ex.load ty23 rfl (hS.cell (ub_rd (M317.get (i := 0) rfl) (k := a - 1) (by omega) (by omega)) (fun f => f))) ?_
                refine WP.qy (Keep.refl _ _) rfl rfl rfl rfl rfl rfl (fun w' hS => Ex.load ty23 rfl (hS.cell (ub_rd (M317.get (i := 0) rfl) (k := p1) (by omega) (by omega)) (fun f => f))) ?_
                refine WP.ay rfl rfl rfl rfl rfl rfl (Ac.call rfl Tryd.func125 nm125 rfl (less_ok w317 (gv y2 (a - 1)) (gv y2 (p1)))) ?_; rintro v330 w330 ⟨rfl, K330⟩; refine .inl ⟨rfl, Keep nof w330, ?_⟩
                have M330 := M317.step K330
                refine WP.py rfl rfl rfl rfl rfl rfl (fun _ => Ex.not rfl) ?_
                refine WP.p rfl rfl rfl rfl (fun _ => Ex.pickT rfl rfl) ?_
                refine WP.nil ?_
                refine WX.next ?_
                refine WC.cond rfl (fun h87 => ?_) (fun h87 => ?_)
                · have h87b : ¬ gv y2 (a - 1) < gv y2 p1 := by simpa using h87
                  refine qD ?_
                  refine qA ?_
                  refine qA ?_
                  refine qA ?_
                  refine qA ?_
                  refine WL.ac rfl rfl rfl (Ac.call rfl Tryd.func126 nm126 rfl (parte_ok w330 g c n a b p1 y2 tl (M330.get (i := 0) rfl) (by omega) (by omega) (by omega) (by omega) (by omega))) ?_; rintro v337 w337 ⟨zs, m, rfl, hm1, hm2, hrz, hle, hgt, T337⟩
                  have M337 := M330.turned (i := 0) rfl T337
                  try dsimp only [List.set] at M337
                  have hnr := hrl2.trans (hrz.mono (by omega) (by omega))
                  obtain ⟨hns, hnp⟩ := hst2.eqp hrz (by omega) (by omega) hm1 hm2 (fun k h1 h2 => Nat.le_trans (by omega) (hpr2 (by omega) k h1 h2)) hle hgt
                  refine qB ?_
                  refine qE ?_
                  refine qD ?_
                  refine qA ?_
                  refine qB ?_
                  refine qE ?_
                  refine WC.exit ?_
                  refine WX.exit_then (WX.exit_block (?_))
                  refine WX.again (((m, b, l1, true, false, zs) : Nat × Nat × Nat × Bool × Bool × List Nat)) ?_ ?_ (.cons rfl (.cons rfl (.cons rfl (.cons rfl (.cons rfl (.cons rfl (.nil)))))))
                  · dsimp only; omega
                  · exact ⟨by dsimp only; omega, by dsimp only; omega, by dsimp only; omega, hl1, hnr, hns, hnp, M337⟩
                · skip
                  refine WC.skip ?_
                  refine WX.next ?_
                  refine qD ?_
                  refine qA ?_
                  refine qA ?_
                  refine qA ?_
                  refine qA ?_
                  refine WL.ac rfl rfl rfl (Ac.call rfl Tryd.func127 nm127 rfl (part_ok w330 g c n a b p1 y2 tl (M330.get (i := 0) rfl) (by omega) (by omega) (by omega) (by omega) (by omega))) ?_; rintro v345 w345 ⟨zs, m, r, rfl, hrz, hpt, T345⟩
                  have M345 := M330.turned (i := 0) rfl T345
                  try dsimp only [List.set] at M345
                  have hm1 := hpt.lo
                  have hm2 := hpt.hi
                  have hzl := hrz.len
                  have hst3 := hst2.rel hrz (by omega) (by omega)
                  have hpr3 := hpr2.rel hrz
                  have hrl3 := hrl2.trans (hrz.mono (by omega) (by omega))
                  refine qA ?_
                  refine WL.ex rfl rfl rfl (Ex.ext rfl rfl) ?_
                  refine WL.ex rfl rfl rfl (Ex.ext rfl rfl) ?_
                  refine qB ?_
                  refine qB ?_
                  refine qE ?_
                  refine qD ?_
                  refine qA ?_
                  refine qB ?_
                  refine qE ?_
                  refine qD ?_
                  refine qA ?_
                  refine qA ?_
                  refine WL.ex rfl rfl rfl (Ex.sub rfl rfl (c := ((m - a : Nat) : Int)) (wrapN (by omega) (by omega))) ?_
                  refine qA ?_
                  refine qA ?_
                  refine WL.ex rfl rfl rfl (Ex.sub rfl rfl (c := ((b - m : Nat) : Int)) (wrapN (by omega) (by omega))) ?_
                  refine qB ?_
                  refine qB ?_
                  refine qE ?_
                  refine qD ?_
                  refine qA ?_
                  refine WL.ex rfl rfl rfl (Ex.quo rfl rfl (by omega) (c := (((b - a) / 8 : Nat) : Int)) (by rw [Int.tdiv_eq_ediv_of_nonneg (by omega)]; exact wrapI (by omega) (by omega) (by omega))) ?_
                  refine qB ?_
                  refine qE ?_
                  refine qD ?_
                  refine qA ?_
                  refine qA ?_
                  refine WL.ex rfl rfl rfl (Ex.lss rfl rfl) ?_
                  refine qE ?_
                  refine WC.cond_dec rfl (fun h113 => ?_) (fun h113 => ?_)
                  · skip
                    refine qD ?_
                    refine qA ?_
                    refine qA ?_
                    refine WL.ex rfl rfl rfl (Ex.geq rfl rfl) ?_
                    refine qB ?_
                    refine qE ?_
                    refine qD ?_
                    refine qA ?_
                    refine qA ?_
                    refine qA ?_
                    refine qA ?_
                    refine WL.ac rfl rfl rfl (Ac.call rfl Tryd.func106 nm106 rfl (ih w345 g c n a m l1 zs tl (M345.get (i := 0) rfl) (by omega) (by omega) (by omega) hn50 hl1 (by omega) (hpr3.left hm2))) ?_; rintro v375 w375 ⟨ws, hrw, hsw, T375⟩
                    have M375 := M345.turned (i := 0) rfl T375
                    try dsimp only [List.set] at M375
                    have hnr := hrl3.trans (hrw.mono (by omega) (by omega))
                    obtain ⟨hns, hnp⟩ := hst3.left hpt hrw hsw (by omega) (by omega)
                    refine qE ?_
                    refine WC.region ?_
                    refine qA ?_
                    refine WL.ex rfl rfl rfl (Ex.add rfl rfl (c := ((m + 1 : Nat) : Int)) (wrapN (by omega) (by omega))) ?_
                    refine qB ?_
                    refine WL.nil ?_
                    refine WX.normal_block (?_)
                    refine WX.again (((m + 1, b, l1, decide ((((b - a) / 8 : Nat) : Int) ≤ ((m - a : Nat) : Int)), r, ws) : Nat × Nat × Nat × Bool × Bool × List Nat)) ?_ ?_ (.cons rfl (.cons rfl (.cons rfl (.cons rfl (.cons rfl (.cons rfl (.nil)))))))
                    · dsimp only; omega
                    · exact ⟨by dsimp only; omega, by dsimp only; omega, by dsimp only; omega, hl1, hnr, hns, hnp, M375⟩
                  · skip
                    refine qD ?_
                    refine qA ?_
                    refine qA ?_
                    refine WL.ex rfl rfl rfl (Ex.geq rfl rfl) ?_
                    refine qB ?_
                    refine qE ?_
                    refine qD ?_
                    refine qA ?_
                    refine qA ?_
                    refine WL.ex rfl rfl rfl (Ex.add rfl rfl (c := ((m + 1 : Nat) : Int)) (wrapN (by omega) (by omega))) ?_
                    refine qA ?_
                    refine qA ?_
                    refine WL.ac rfl rfl rfl (Ac.call rfl Tryd.func106 nm106 rfl (ih w345 g c n (m + 1) b l1 zs tl (M345.get (i := 0) rfl) (by omega) (by omega) (by omega) hn50 hl1 (by omega) (.right hpt))) ?_; rintro v388 w388 ⟨ws, hrw, hsw, T388⟩
                    have M388 := M345.turned (i := 0) rfl T388
                    try dsimp only [List.set] at M388
                    have hnr := hrl3.trans (hrw.mono (by omega) (by omega))
                    obtain ⟨hns, hnp⟩ := hst3.right hpr3 hpt hrw hsw (by omega) (by omega)
                    refine qE ?_
                    refine WC.region ?_
                    refine qA ?_
                    refine qB ?_
                    refine WL.nil ?_
                    refine WX.normal_block (?_)
                    refine WX.again (((a, m, l1, decide ((((b - a) / 8 : Nat) : Int) ≤ ((b - m : Nat) : Int)), r, ws) : Nat × Nat × Nat × Bool × Bool × List Nat)) ?_ ?_ (.cons rfl (.cons rfl (.cons rfl (.cons rfl (.cons rfl (.cons rfl (.nil)))))))
                    · dsimp only; omega
                    · exact ⟨by dsimp only; omega, by dsimp only; omega, by dsimp only; omega, hl1, hnr, hns, hnp, M388⟩
              · rw [decide_eq_false ha0]
                refine WP.no rfl rfl rfl rfl rfl rfl rfl ?_
                refine WP.no rfl rfl rfl rfl rfl rfl rfl ?_
                refine WP.no rfl rfl rfl rfl rfl rfl rfl ?_
                refine WP.no rfl rfl rfl rfl rfl rfl rfl ?_
                refine WP.no rfl rfl rfl rfl rfl rfl rfl ?_
                refine WP.no rfl rfl rfl rfl rfl rfl rfl ?_
                refine WP.no rfl rfl rfl rfl rfl rfl rfl ?_
                refine WP.no1 (Keep.refl _ _) rfl rfl rfl rfl rfl rfl rfl ?_
                refine WP.no1 (Keep.refl _ _) rfl rfl rfl rfl rfl rfl rfl ?_
                refine WP.no2 rfl rfl rfl rfl rfl rfl rfl ?_
                refine WP.no rfl rfl rfl rfl rfl rfl rfl ?_
                refine WP.p rfl rfl rfl rfl (fun _ => Ex.pickF rfl rfl) ?_
                refine WP.nil ?_
                refine WX.next ?_
                refine WC.no rfl ?_
                refine WC.skip ?_
                refine WX.next ?_
                refine qD ?_
                refine qA ?_
                refine qA ?_
                refine qA ?_
                refine qA ?_
                refine WL.ac rfl rfl rfl (Ac.call rfl Tryd.func127 nm127 rfl (part_ok w317 g c n a b p1 y2 tl (M317.get (i := 0) rfl) (by omega) (by omega) (by omega) (by omega) (by omega))) ?_; rintro v396 w396 ⟨zs, m, r, rfl, hrz, hpt, T396⟩
                have M396 := M317.turned (i := 0) rfl T396
                try dsimp only [List.set] at M396
                have hm1 := hpt.lo
                have hm2 := hpt.hi
                have hzl := hrz.len
                have hst3 := hst2.rel hrz (by omega) (by omega)
                have hpr3 := hpr2.rel hrz
                have hrl3 := hrl2.trans (hrz.mono (by omega) (by omega))
                refine qA ?_
                refine WL.ex rfl rfl rfl (Ex.ext rfl rfl) ?_
                refine WL.ex rfl rfl rfl (Ex.ext rfl rfl) ?_
                refine qB ?_
                refine qB ?_
                refine qE ?_
                refine qD ?_
                refine qA ?_
                refine qB ?_
                refine qE ?_
                refine qD ?_
                refine qA ?_
                refine qA ?_
                refine WL.ex rfl rfl rfl (Ex.sub rfl rfl (c := ((m - a : Nat) : Int)) (wrapN (by omega) (by omega))) ?_
                refine qA ?_
                refine qA ?_
                refine WL.ex rfl rfl rfl (Ex.sub rfl rfl (c := ((b - m : Nat) : Int)) (wrapN (by omega) (by omega))) ?_
                refine qB ?_
                refine qB ?_
                refine qE ?_
                refine qD ?_
                refine qA ?_
                refine WL.ex rfl rfl rfl (Ex.quo rfl rfl (by omega) (c := (((b - a) / 8 : Nat) : Int)) (by rw [Int.tdiv_eq_ediv_of_nonneg (by omega)]; exact wrapI (by omega) (by omega) (by omega))) ?_
                refine qB ?_
                refine qE ?_
                refine qD ?_
                refine qA ?_
                refine qA ?_
                refine WL.ex rfl rfl rfl (Ex.lss rfl rfl) ?_
                refine qE ?_
                refine WC.cond_dec rfl (fun h113 => ?_) (fun h113 => ?_)
                · skip
                  refine qD ?_
                  refine qA ?_
                  refine qA ?_
                  refine WL.ex rfl rfl rfl (Ex.geq rfl rfl) ?_
                  refine qB ?_
                  refine qE ?_
                  refine qD ?_
                  refine qA ?_
                  refine qA ?_
                  refine qA ?_
                  refine qA ?_
                  refine WL.ac rfl rfl rfl (Ac.call rfl Tryd.func106 nm106 rfl (ih w396 g c n a m l1 zs tl (M396.get (i := 0) rfl) (by omega) (by omega) (by omega) hn50 hl1 (by omega) (hpr3.left hm2))) ?_; rintro v426 w426 ⟨ws, hrw, hsw, T426⟩
                  have M426 := M396.turned (i := 0) rfl T426
                  try dsimp only [List.set] at M426
                  have hnr := hrl3.trans (hrw.mono (by omega) (by omega))
                  obtain ⟨hns, hnp⟩ := hst3.left hpt hrw hsw (by omega) (by omega)
                  refine qE ?_
                  refine WC.region ?_
                  refine qA ?_
                  refine WL.ex rfl rfl rfl (Ex.add rfl rfl (c := ((m + 1 : Nat) : Int)) (wrapN (by omega) (by omega))) ?_
                  refine qB ?_
                  refine WL.nil ?_
                  refine WX.normal_block (?_)
                  refine WX.again (((m + 1, b, l1, decide ((((b - a) / 8 : Nat) : Int) ≤ ((m - a : Nat) : Int)), r, ws) : Nat × Nat × Nat × Bool × Bool × List Nat)) ?_ ?_ (.cons rfl (.cons rfl (.cons rfl (.cons rfl (.cons rfl (.cons rfl (.nil)))))))
                  · dsimp only; omega
                  · exact ⟨by dsimp only; omega, by dsimp only; omega, by dsimp only; omega, hl1, hnr, hns, hnp, M426⟩
                · skip
                  refine qD ?_
                  refine qA ?_
                  refine qA ?_
                  refine WL.ex rfl rfl rfl (Ex.geq rfl rfl) ?_
                  refine qB ?_
                  refine qE ?_
                  refine qD ?_
                  refine qA ?_
                  refine qA ?_
                  refine WL.ex rfl rfl rfl (Ex.add rfl rfl (c := ((m + 1 : Nat) : Int)) (wrapN (by omega) (by omega))) ?_
                  refine qA ?_
                  refine qA ?_
                  refine WL.ac rfl rfl rfl (Ac.call rfl Tryd.func106 nm106 rfl (ih w396 g c n (m + 1) b l1 zs tl (M396.get (i := 0) rfl) (by omega) (by omega) (by omega) hn50 hl1 (by omega) (.right hpt))) ?_; rintro v439 w439 ⟨ws, hrw, hsw, T439⟩
                  have M439 := M396.turned (i := 0) rfl T439
                  try dsimp only [List.set] at M439
                  have hnr := hrl3.trans (hrw.mono (by omega) (by omega))
                  obtain ⟨hns, hnp⟩ := hst3.right hpr3 hpt hrw hsw (by omega) (by omega)
                  refine qE ?_
                  refine WC.region ?_
                  refine qA ?_
                  refine qB ?_
                  refine WL.nil ?_
                  refine WX.normal_block (?_)
                  refine WX.again (((a, m, l1, decide ((((b - a) / 8 : Nat) : Int) ≤ ((b - m : Nat) : Int)), r, ws) : Nat × Nat × Nat × Bool × Bool × List Nat)) ?_ ?_ (.cons rfl (.cons rfl (.cons rfl (.cons rfl (.cons rfl (.cons rfl (.nil)))))))
                  · dsimp only; omega
                  · exact ⟨by dsimp only; omega, by dsimp only; omega, by dsimp only; omega, hl1, hnr, hns, hnp, M439⟩
          · subst hbal
            refine WL.no rfl rfl rfl rfl rfl rfl ?_
            refine WL.ex rfl rfl rfl (Ex.pickF rfl rfl) ?_
            refine qA ?_
            refine WL.no rfl rfl rfl rfl rfl rfl ?_
            refine WL.no rfl rfl rfl rfl rfl rfl ?_
            refine WL.ex rfl rfl rfl (Ex.pickF rfl rfl) ?_
            refine qE ?_
            refine WC.no rfl ?_
            refine WC.skip ?_
            refine WX.next ?_
            refine WC.seq ?_
            refine WC.seq ?_
            refine WC.draw (Keep nof w53.drew) [12] (.one 0 0 (.one 1 0 (.one 2 0 (.one 3 0 (.one 4 0 (.one 5 0 (.one 6 0 (.one 8 0 (.one 9 0 (.one 10 0 (.one 7 1 (.one 11 1 (.one 12 2 (.one 13 0 (.one 14 0 .nil))))))))))))))) mixed (by kernel_rfl) (by kernel_rfl) (by kernel_rfl) (HQ.then_ (HQ.then_ (HQ.block (HQ.then_ (HQ.block HQ.body))))) ?_
            obtain ⟨w445, hw445⟩ : ∃ v, v = w53.drew := ⟨_, rfl⟩
            have D445 : Keep nof w53 w445 := by rw [hw445]; exact Keep.drew _ _
            have M445 := M53.step D445
            rw [← hw445]; clear hw445
            refine qC ?_
            refine WP.p rfl rfl rfl rfl (fun _ => Ex.gtr rfl rfl) ?_
            refine qC ?_
            by_cases ha0 : (a : Int) > (0 : Int)
            · rw [decide_eq_true ha0]
              refine WP.py rfl rfl rfl rfl rfl rfl (fun _ => Ex.mv rfl) ?_
              refine WP.py rfl rfl rfl rfl rfl rfl (fun _ => Ex.mv rfl) ?_
              refine WP.py rfl rfl rfl rfl rfl rfl (fun _ => Ex.sub rfl rfl (i64w _ (by omega) (by omega))) ?_
              refine WP.py rfl rfl rfl rfl rfl rfl (fun _ => Ex.ia Tryd.underlying67 sz23 rfl rfl ⟨by omega, by omega⟩) ?_
              refine WP.py rfl rfl rfl rfl rfl rfl (fun _ => Ex.mv rfl) ?_
              refine WP.py rfl rfl rfl rfl rfl rfl (fun _ => Ex.mv rfl) ?_
              refine WP.py rfl rfl rfl rfl rfl rfl (fun _ => Ex.ia Tryd.underlying67 sz23 rfl rfl ⟨by omega, by omega⟩) ?_
              refine WP.qy (Keep.refl _ _) rfl rfl rfl rfl rfl rfl (fun w' hS => Ex.load ty23 rfl (hS.cell (ub_rd (M445.get (i := 0) rfl) (k := a - 1) (by omega) (by omega)) (fun f => f))) ?_
              refine WP.qy (Keep.refl _ _) rfl rfl rfl rfl rfl rfl (fun w' hS => Ex.load ty23 rfl (hS.cell (ub_rd (M445.get (i := 0) rfl) (k := p1) (by omega) (by omega)) (fun f => f))) ?_
              refine WP.ay rfl rfl rfl rfl rfl rfl (Ac.call rfl Tryd.func125 nm125 rfl (less_ok w445 (gv y2 (a - 1)) (gv y2 (p1)))) ?_; rintro v458 w458 ⟨rfl, K458⟩; refine .inl ⟨rfl, Keep nof w458, ?_⟩
              have M458 := M445.step K458
              refine WP.py rfl rfl rfl rfl rfl rfl (fun _ => Ex.not rfl) ?_
              refine WP.p rfl rfl rfl rfl (fun _ => Ex.pickT rfl rfl) ?_
              refine WP.nil ?_
              refine WX.next ?_
              refine WC.cond rfl (fun h87 => ?_) (fun h87 => ?_)
              · have h87b : ¬ gv y2 (a - 1) < gv y2 p1 := by simpa using h87
                refine qD ?_
                refine qA ?_
                refine qA ?_
                refine qA ?_
                refine qA ?_
                refine WL.ac rfl rfl rfl (Ac.call rfl Tryd.func126 nm126 rfl (parte_ok w458 g c n a b p1 y2 tl (M458.get (i := 0) rfl) (by omega) (by omega) (by omega) (by omega) (by omega))) ?_; rintro v465 w465 ⟨zs, m, rfl, hm1, hm2, hrz, hle, hgt, T465⟩
                have M465 := M458.turned (i := 0) rfl T465
                try dsimp only [List.set] at M465
                have hnr := hrl2.trans (hrz.mono (by omega) (by omega))
                obtain ⟨hns, hnp⟩ := hst2.eqp hrz (by omega) (by omega) hm1 hm2 (fun k h1 h2 => Nat.le_trans (by omega) (hpr2 (by omega) k h1 h2)) hle hgt
                refine qB ?_
                refine qE ?_
                refine qD ?_
                refine qA ?_
                refine qB ?_
                refine qE ?_
                refine WC.exit ?_
                refine WX.exit_then (WX.exit_block (?_))
                refine WX.again (((m, b, l1, false, prt, zs) : Nat × Nat × Nat × Bool × Bool × List Nat)) ?_ ?_ (.cons rfl (.cons rfl (.cons rfl (.cons rfl (.cons rfl (.cons rfl (.nil)))))))
                · dsimp only; omega
                · exact ⟨by dsimp only; omega, by dsimp only; omega, by dsimp only; omega, hl1, hnr, hns, hnp, M465⟩
              · skip
                refine WC.skip ?_
                refine WX.next ?_
                refine qD ?_
                refine qA ?_
                refine qA ?_
                refine qA ?_
                refine qA ?_
                refine WL.ac rfl rfl rfl (Ac.call rfl Tryd.func127 nm127 rfl (part_ok w458 g c n a b p1 y2 tl (M458.get (i := 0) rfl) (by omega) (by omega) (by omega) (by omega) (by omega))) ?_; rintro v473 w473 ⟨zs, m, r, rfl, hrz, hpt, T473⟩
                have M473 := M458.turned (i := 0) rfl T473
                try dsimp only [List.set] at M473
                have hm1 := hpt.lo
                have hm2 := hpt.hi
                have hzl := hrz.len
                have hst3 := hst2.rel hrz (by omega) (by omega)
                have hpr3 := hpr2.rel hrz
                have hrl3 := hrl2.trans (hrz.mono (by omega) (by omega))
                refine qA ?_
                refine WL.ex rfl rfl rfl (Ex.ext rfl rfl) ?_
                refine WL.ex rfl rfl rfl (Ex.ext rfl rfl) ?_
                refine qB ?_
                refine qB ?_
                refine qE ?_
                refine qD ?_
                refine qA ?_
                refine qB ?_
                refine qE ?_
                refine qD ?_
                refine qA ?_
                refine qA ?_
                refine WL.ex rfl rfl rfl (Ex.sub rfl rfl (c := ((m - a : Nat) : Int)) (wrapN (by omega) (by omega))) ?_
                refine qA ?_
                refine qA ?_
                refine WL.ex rfl rfl rfl (Ex.sub rfl rfl (c := ((b - m : Nat) : Int)) (wrapN (by omega) (by omega))) ?_
                refine qB ?_
                refine qB ?_
                refine qE ?_
                refine qD ?_
                refine qA ?_
                refine WL.ex rfl rfl rfl (Ex.quo rfl rfl (by omega) (c := (((b - a) / 8 : Nat) : Int)) (by rw [Int.tdiv_eq_ediv_of_nonneg (by omega)]; exact wrapI (by omega) (by omega) (by omega))) ?_
                refine qB ?_
                refine qE ?_
                refine qD ?_
                refine qA ?_
                refine qA ?_
                refine WL.ex rfl rfl rfl (Ex.lss rfl rfl) ?_
                refine qE ?_
                refine WC.cond_dec rfl (fun h113 => ?_) (fun h113 => ?_)
                · skip
                  refine qD ?_
                  refine qA ?_
                  refine qA ?_
                  refine WL.ex rfl rfl rfl (Ex.geq rfl rfl) ?_
                  refine qB ?_
                  refine qE ?_
                  refine qD ?_
                  refine qA ?_
                  refine qA ?_
                  refine qA ?_
                  refine qA ?_
                  refine WL.ac rfl rfl rfl (Ac.call rfl Tryd.func106 nm106 rfl (ih w473 g c n a m l1 zs tl (M473.get (i := 0) rfl) (by omega) (by omega) (by omega) hn50 hl1 (by omega) (hpr3.left hm2))) ?_; rintro v503 w503 ⟨ws, hrw, hsw, T503⟩
                  have M503 := M473.turned (i := 0) rfl T503
                  try dsimp only [List.set] at M503
                  have hnr := hrl3.trans (hrw.mono (by omega) (by omega))
                  obtain ⟨hns, hnp⟩ := hst3.left hpt hrw hsw (by omega) (by omega)
                  refine qE ?_
                  refine WC.region ?_
                  refine qA ?_
                  refine WL.ex rfl rfl rfl (Ex.add rfl rfl (c := ((m + 1 : Nat) : Int)) (wrapN (by omega) (by omega))) ?_
                  refine qB ?_
                  refine WL.nil ?_
                  refine WX.normal_block (?_)
                  refine WX.again (((m + 1, b, l1, decide ((((b - a) / 8 : Nat) : Int) ≤ ((m - a : Nat) : Int)), r, ws) : Nat × Nat × Nat × Bool × Bool × List Nat)) ?_ ?_ (.cons rfl (.cons rfl (.cons rfl (.cons rfl (.cons rfl (.cons rfl (.nil)))))))
                  · dsimp only; omega
                  · exact ⟨by dsimp only; omega, by dsimp only; omega, by dsimp only; omega, hl1, hnr, hns, hnp, M503⟩
                · skip
                  refine qD ?_
                  refine qA ?_
                  refine qA ?_
                  refine WL.ex rfl rfl rfl (Ex.geq rfl rfl) ?_
                  refine qB ?_
                  refine qE ?_
                  refine qD ?_
                  refine qA ?_
                  refine qA ?_
                  refine WL.ex rfl rfl rfl (Ex.add rfl rfl (c := ((m + 1 : Nat) : Int)) (wrapN (by omega) (by omega))) ?_
                  refine qA ?_
                  refine qA ?_
                  refine WL.ac rfl rfl rfl (Ac.call rfl Tryd.func106 nm106 rfl (ih w473 g c n (m + 1) b l1 zs tl (M473.get (i := 0) rfl) (by omega) (by omega) (by omega) hn50 hl1 (by omega) (.right hpt))) ?_; rintro v516 w516 ⟨ws, hrw, hsw, T516⟩
                  have M516 := M473.turned (i := 0) rfl T516
                  try dsimp only [List.set] at M516
                  have hnr := hrl3.trans (hrw.mono (by omega) (by omega))
                  obtain ⟨hns, hnp⟩ := hst3.right hpr3 hpt hrw hsw (by omega) (by omega)
                  refine qE ?_
                  refine WC.region ?_
                  refine qA ?_
                  refine qB ?_
                  refine WL.nil ?_
                  refine WX.normal_block (?_)
                  refine WX.again (((a, m, l1, decide ((((b - a) / 8 : Nat) : Int) ≤ ((b - m : Nat) : Int)), r, ws) : Nat × Nat × Nat × Bool × Bool × List Nat)) ?_ ?_ (.cons rfl (.cons rfl (.cons rfl (.cons rfl (.cons rfl (.cons rfl (.nil)))))))
                  · dsimp only; omega
                  · exact ⟨by dsimp only; omega, by dsimp only; omega, by dsimp only; omega, hl1, hnr, hns, hnp, M516⟩
            · rw [decide_eq_false ha0]
              refine WP.no rfl rfl rfl rfl rfl rfl rfl ?_
              refine WP.no rfl rfl rfl rfl rfl rfl rfl ?_
              refine WP.no rfl rfl rfl rfl rfl rfl rfl ?_
              refine WP.no rfl rfl rfl rfl rfl rfl rfl ?_
              refine WP.no rfl rfl rfl rfl rfl rfl rfl ?_
              refine WP.no rfl rfl rfl rfl rfl rfl rfl ?_
              refine WP.no rfl rfl rfl rfl rfl rfl rfl ?_
              refine WP.no1 (Keep.refl _ _) rfl rfl rfl rfl rfl rfl rfl ?_
              refine WP.no1 (Keep.refl _ _) rfl rfl rfl rfl rfl rfl rfl ?_
              refine WP.no2 rfl rfl rfl rfl rfl rfl rfl ?_
              refine WP.no rfl rfl rfl rfl rfl rfl rfl ?_
              refine WP.p rfl rfl rfl rfl (fun _ => Ex.pickF rfl rfl) ?_
              refine WP.nil ?_
              refine WX.next ?_
              refine WC.no rfl ?_
              refine WC.skip ?_
              refine WX.next ?_
              refine qD ?_
              refine qA ?_
              refine qA ?_
              refine qA ?_
              refine qA ?_
              refine WL.ac rfl rfl rfl (Ac.call rfl Tryd.func127 nm127 rfl (part_ok w445 g c n a b p1 y2 tl (M445.get (i := 0) rfl) (by omega) (by omega) (by omega) (by omega) (by omega))) ?_; rintro v524 w524 ⟨zs, m, r, rfl, hrz, hpt, T524⟩
              have M524 := M445.turned (i := 0) rfl T524
              try dsimp only [List.set] at M524
              have hm1 := hpt.lo
              have hm2 := hpt.hi
              have hzl := hrz.len
              have hst3 := hst2.rel hrz (by omega) (by omega)
              have hpr3 := hpr2.rel hrz
              have hrl3 := hrl2.trans (hrz.mono (by omega) (by omega))
              refine qA ?_
              refine WL.ex rfl rfl rfl (Ex.ext rfl rfl) ?_
              refine WL.ex rfl rfl rfl (Ex.ext rfl rfl) ?_
              refine qB ?_
              refine qB ?_
              refine qE ?_
              refine qD ?_
              refine qA ?_
              refine qB ?_
              refine qE ?_
              refine qD ?_
              refine qA ?_
              refine qA ?_
              refine WL.ex rfl rfl rfl (Ex.sub rfl rfl (c := ((m - a : Nat) : Int)) (wrapN (by omega) (by omega))) ?_
              refine qA ?_
              refine qA ?_
              refine WL.ex rfl rfl rfl (Ex.sub rfl rfl (c := ((b - m : Nat) : Int)) (wrapN (by omega) (by omega))) ?_
              refine qB ?_
              refine qB ?_
              refine qE ?_
              refine qD ?_
              refine qA ?_
              refine WL.ex rfl rfl rfl (Ex.quo rfl rfl (by omega) (c := (((b - a) / 8 : Nat) : Int)) (by rw [Int.tdiv_eq_ediv_of_nonneg (by omega)]; exact wrapI (by omega) (by omega) (by omega))) ?_
              refine qB ?_
              refine qE ?_
              refine qD ?_
              refine qA ?_
              refine qA ?_
              refine WL.ex rfl rfl rfl (Ex.lss rfl rfl) ?_
              refine qE ?_
              refine WC.cond_dec rfl (fun h113 => ?_) (fun h113 => ?_)
              · skip
                refine qD ?_
                refine qA ?_
                refine qA ?_
                refine WL.ex rfl rfl rfl (Ex.geq rfl rfl) ?_
                refine qB ?_
                refine qE ?_
                refine qD ?_
                refine qA ?_
                refine qA ?_
                refine qA ?_
                refine qA ?_
                refine WL.ac rfl rfl rfl (Ac.call rfl Tryd.func106 nm106 rfl (ih w524 g c n a m l1 zs tl (M524.get (i := 0) rfl) (by omega) (by omega) (by omega) hn50 hl1 (by omega) (hpr3.left hm2))) ?_; rintro v554 w554 ⟨ws, hrw, hsw, T554⟩
                have M554 := M524.turned (i := 0) rfl T554
                try dsimp only [List.set] at M554
                have hnr := hrl3.trans (hrw.mono (by omega) (by omega))
                obtain ⟨hns, hnp⟩ := hst3.left hpt hrw hsw (by omega) (by omega)
                refine qE ?_
                refine WC.region ?_
                refine qA ?_
                refine WL.ex rfl rfl rfl (Ex.add rfl rfl (c := ((m + 1 : Nat) : Int)) (wrapN (by omega) (by omega))) ?_
                refine qB ?_
                refine WL.nil ?_
                refine WX.normal_block (?_)
                refine WX.again (((m + 1, b, l1, decide ((((b - a) / 8 : Nat) : Int) ≤ ((m - a : Nat) : Int)), r, ws) : Nat × Nat × Nat × Bool × Bool × List Nat)) ?_ ?_ (.cons rfl (.cons rfl (.cons rfl (.cons rfl (.cons rfl (.cons rfl (.nil)))))))
                · dsimp only; omega
                · exact ⟨by dsimp only; omega, by dsimp only; omega, by dsimp only; omega, hl1, hnr, hns, hnp, M554⟩
              · skip
                refine qD ?_
                refine qA ?_
                refine qA ?_
                refine WL.ex rfl rfl rfl (Ex.geq rfl rfl) ?_
                refine qB ?_
                refine qE ?_
                refine qD ?_
                refine qA ?_
                refine qA ?_
                refine WL.ex rfl rfl rfl (Ex.add rfl rfl (c := ((m + 1 : Nat) : Int)) (wrapN (by omega) (by omega))) ?_
                refine qA ?_
                refine qA ?_
                refine WL.ac rfl rfl rfl (Ac.call rfl Tryd.func106 nm106 rfl (ih w524 g c n (m + 1) b l1 zs tl (M524.get (i := 0) rfl) (by omega) (by omega) (by omega) hn50 hl1 (by omega) (.right hpt))) ?_; rintro v567 w567 ⟨ws, hrw, hsw, T567⟩
                have M567 := M524.turned (i := 0) rfl T567
                try dsimp only [List.set] at M567
                have hnr := hrl3.trans (hrw.mono (by omega) (by omega))
                obtain ⟨hns, hnp⟩ := hst3.right hpr3 hpt hrw hsw (by omega) (by omega)
                refine qE ?_
                refine WC.region ?_
                refine qA ?_
                refine qB ?_
                refine WL.nil ?_
                refine WX.normal_block (?_)
                refine WX.again (((a, m, l1, decide ((((b - a) / 8 : Nat) : Int) ≤ ((b - m : Nat) : Int)), r, ws) : Nat × Nat × Nat × Bool × Bool × List Nat)) ?_ ?_ (.cons rfl (.cons rfl (.cons rfl (.cons rfl (.cons rfl (.cons rfl (.nil)))))))
                · dsimp only; omega
                · exact ⟨by dsimp only; omega, by dsimp only; omega, by dsimp only; omega, hl1, hnr, hns, hnp, M567⟩

theorem pdq_all : ∀ N, PdqOk N
  | 0 => fun w g c n a0 b0 lim0 xs tl h1 h2 h3 h4 h5 hl h6 h7 => by omega
  | N + 1 => fun w g c n a0 b0 lim0 xs tl h1 h2 h3 h4 h5 hl h6 h7 => pdq_step N (pdq_all N) w g c n a0 b0 lim0 xs tl h1 h2 h3 h4 h5 hl (by omega) h7

/- slices.Sort[[]uint64,uint64] -/
theorem sort_ok (w : World) (g c n : Nat) (xs : List Nat) (tl : List Value) (hR : (ub g xs tl 23).sat w) (hn : xs.length = n) (hn50 : n < 50) :
    Gives Tryd.prog 89 #[.slice (some ⟨g, 0, none⟩) n c] w fun u w1 => ∃ ys, Rel 0 n xs ys ∧ SrtR 0 n ys ∧ Turn w w1 (ub g xs tl 23) (ub g ys tl 23) := by
  obtain ⟨FF, hFF⟩ : ∃ FF : Nat → Prop, FF = (fun b => b ∈ (ub g xs tl 23).fp) := ⟨_, rfl⟩
  have M0 : Mem w w FF [ub g xs tl 23] := by rw [hFF]; exact Mem.begin hR
  refine Gives.enter (n := 11) Tryd.func89 rfl Tryd.ntmps89 rfl (env := [(0, .slice (some ⟨g, 0, none⟩) n c)]) rfl ?_
  refine qD ?_
  refine qA ?_
  refine WL.ex rfl rfl rfl (Ex.len Tryd.underlying67 rfl) ?_
  refine qB ?_
  refine qE ?_
  refine WC.region ?_
  refine qA ?_
  refine qA ?_
  refine qA ?_
  refine WL.ex rfl rfl rfl (Ex.cvI Tryd.underlying3 Tryd.underlying162 rfl (u64w_lt _ (by omega))) ?_
  refine WL.ac rfl rfl rfl (Ac.call rfl Tryd.func107 nm107 rfl (len_ok w n (by omega))) ?_; rintro v8 w8 ⟨rfl, K8⟩
  have M8 := M0.step K8
  have h6 : len8 n ≤ 6 := by
    by_cases e : n = 0
    · subst e; decide
    · exact (len8_2 n (by omega) (by omega)).2
  refine WL.ac rfl rfl rfl (Ac.call rfl Tryd.func106 nm106 rfl ((pdq_all (n + 1) w8 g c n 0 n (len8 n) xs tl (M8.get (i := 0) rfl) hn (by omega) (by omega) hn50 (by omega) (by omega) (fun h => by omega)))) ?_; rintro v9 w9 ⟨ys, hrl, hso, T9⟩
  have M9 := M8.turned (i := 0) rfl T9
  try dsimp only [List.set] at M9
  
  refine WL.nil ?_
  refine WX.end0 rfl ?_
  subst hFF
  exact ⟨ys, hrl, hso, M9.toTurn⟩

end Go.Proofs.YtchmjpdkonfifaaDoor

set_option linter.unusedVariables false
set_option linter.unusedSimpArgs false
namespace Go.Proofs.YtchmjpdkonfifaaDoor
open Go.Sx Go.RowKit
attribute [local irreducible] Ac Ex WL WC WX WP Gives

theorem mem_rowblk {w0 w : World} {F : Nat → Prop} {rs : List Res} (M : Mem w0 w F rs) {i n c sz : Nat} {A : Option Addr} {e : TypeId} {xs : List Value} (hi : rs[i]? = some (row (.slice A n c) e sz n xs)) (hn : 0 < n) :
    ∃ g ys, A = some ⟨g, 0, none⟩ ∧ n ≤ c ∧ c ≤ maxLen ∧ xs.length = n * sz ∧ (xs ++ ys).length = c * sz ∧ Mem w0 w F (rs.set i (blk g (xs ++ ys) e)) := by
  have hs := M.get hi
  have h1 := hs.1
  rcases hs.2 with ⟨hv, h0⟩ | ⟨g, cap, cur, hv, hb, hg, hnc, hcm, hsz, hcur⟩
  · omega
  · simp only [Value.slice.injEq] at hv
    obtain ⟨rfl, _, rfl⟩ := hv
    refine ⟨g, cur.toList.drop (n * sz), rfl, hnc, hcm, h1, ?_, ?_⟩
    · have h2 : xs ++ cur.toList.drop (n * sz) = cur.toList := by
        rw [← List.take_append_drop (n * sz) cur.toList]
        congr 1
        · simpa using hcur.symm
        · simp
      rw [h2]
      simpa using hsz
    · refine M.turn hi (Keep.refl _ _) ?_ (fun b hb => .inl hb)
      have h2 : xs ++ cur.toList.drop (n * sz) = cur.toList := by
        rw [← List.take_append_drop (n * sz) cur.toList]
        congr 1
        · simpa using hcur.symm
        · simp
      show w.heap[g]? = _
      rw [h2]
      simpa using hg
theorem blk_row2 {w : World} {g n c sz : Nat} {l : List Value} {e : TypeId} (h : (blk g l e).sat w) (hl : l.length = c * sz) (hnc : n ≤ c) (hc : c ≤ maxLen) : (row (.slice (some ⟨g, 0, none⟩) n c) e sz n (l.take (n * sz))).sat w :=
  ⟨by rw [List.length_take, hl]; exact Nat.min_eq_left (Nat.mul_le_mul_right _ hnc), .inr ⟨g, c, l.toArray, rfl, Nat.zero_le _, h, hnc, hc, by simpa using hl, by simp⟩⟩
theorem mem_blkrow {w0 w : World} {F : Nat → Prop} {rs : List Res} (M : Mem w0 w F rs) {i g n c sz : Nat} {l : List Value} {e : TypeId} (hi : rs[i]? = some (blk g l e)) (hl : l.length = c * sz) (hnc : n ≤ c) (hc : c ≤ maxLen) : Mem w0 w F (rs.set i (row (.slice (some ⟨g, 0, none⟩) n c) e sz n (l.take (n * sz)))) :=
  M.turn hi (Keep.refl _ _) (blk_row2 (M.get hi) hl hnc hc) (fun b hb => .inl hb)
theorem acClr {P : Program} {n : Nat} {env : Env} {w0 w : World} {F : Nat → Prop} {rs : List Res} {dst : Option Nat} {ty : TypeId} {pos : String} {aft : Array Edge} {gd : Option (Nat × Bool)} (M : Mem w0 w F rs) {t e : TypeId} {i b o k c : Nat} {x : Operand} {l zs : List Value} {e' : TypeId}
    (ht : P.underlying t = some (.slice e)) (hz : (P.info? e).bind (fun i => i.zero.map Value.cells) = some zs.toArray) (hx : ev env x = some (.slice (some ⟨b, o, none⟩) k c)) (h1 : ∀ u ∈ zs, u.oneCell' = true) (hi : rs[i]? = some (blk b l e')) (ho : o + k * zs.length ≤ l.length) :
    Ac P n env (Oper.mk dst (.call { callee := .builtin .clear, args := #[x], argTypes := #[t] }) ty pos aft gd) w fun _ w' => ∃ l', l'.length = l.length ∧ l'.take o = l.take o ∧ Keep (· ∈ [b]) w w' ∧ Mem w0 w' F (rs.set i (blk b l' e')) :=
  Ac.of_run fun a ha => by
    obtain ⟨iF, hiF, h2⟩ := Option.bind_eq_some_iff.1 hz
    obtain ⟨z, hz1, hz2⟩ := Option.map_eq_some_iff.1 h2
    cases k with
    | zero => exact ⟨.tuple #[], w, by simp [execOp, resolve, invoke, builtin, ha.eval hx, Builtin.clear_, run_underlying ht], l, rfl, rfl, Keep.refl _ _, M.turn hi (Keep.refl _ _) (M.get hi) (fun b hb => .inl hb)⟩
    | succ k =>
      have hb' : w.heap[b]? = some (.cells l.toArray e' (0, 0)) := M.get hi
      have hlen : (Builtin.zeroCells zs.toArray (k + 1)).toList.length = (k + 1) * zs.length := by simp [Builtin.zeroCells]
      have hmem : ∀ u ∈ (Builtin.zeroCells zs.toArray (k + 1)).toList, u.oneCell' = true := by
        intro u hu
        simp only [Builtin.zeroCells, Array.toList_map, List.mem_map] at hu
        obtain ⟨j, hj, rfl⟩ := hu
        have hj' : j < (k + 1) * zs.length := by simpa using hj
        have hpos : 0 < zs.length := by
          rcases Nat.eq_zero_or_pos zs.length with h | h
          · rw [h] at hj'; omega
          · exact h
        have hm : j % zs.length < zs.length := Nat.mod_lt _ hpos
        have he : zs.toArray[j % zs.toArray.size]! = zs[j % zs.length] := by simp [hm]
        rw [he]
        exact h1 _ (List.getElem_mem _)
      have h := run_storeCells_at P b o e' (Builtin.zeroCells zs.toArray (k + 1)).toList 0 l.toArray w hb' (by rw [hlen]; simpa using ho) hmem
      simp only [Nat.add_zero] at h
      refine ⟨.tuple #[], w.setRow b (splice l o (Builtin.zeroCells zs.toArray (k + 1)).toList).toArray, ?_, splice l o (Builtin.zeroCells zs.toArray (k + 1)).toList, splice_length (by rw [hlen]; exact ho), ?_, keep_setRow _, M.setRow hi⟩
      · simp [execOp, resolve, invoke, builtin, ha.eval hx, Builtin.clear_, run_underlying ht, zeroValue, typeInfo, hiF, hz1, hz2, h, splice]
      · have hol : o ≤ l.length := by omega
        simp [splice, List.take_append_of_le_length, hol]

theorem ddp_one {ys : List Nat} (h : 1 ≤ ys.length) : ddp ys 1 = ys.take 1 := by
  rw [ddp_yes (.inl rfl), take_snoc (gv_get (by omega))]
  rfl
theorem ddp_self {ys : List Nat} (h : ys.length = 1) : ys = ddp ys 0 ++ [gv ys 0] := by
  rw [← ddp_yes (.inl rfl), ddp_one (by omega), List.take_of_length_le (by omega)]
theorem cmp_fin {ys zs : List Nat} {n l : Nat} {tl l2 : List Value} (h : Cmp ys zs n) (hl : l = (ddp ys n).length) (hn : ys.length = n) (ht : l2.take (0 + l * 1) = (u64V zs ++ tl).take (0 + l * 1)) : l2 = u64V (ddp ys n) ++ l2.drop l := by
  have h1 := h.len
  have h2 := h.lt
  rw [Nat.zero_add, Nat.mul_one, List.take_append_of_le_length (by simp; omega)] at ht
  have h3 : (u64V zs).take l = u64V (ddp ys n) := by
    rw [← h.tak, ← hl]
    simp [u64V, List.map_take]
  rw [h3] at ht
  rw [← ht, List.take_append_drop]

/-- Each of the numbers once, rising. -/
structure Rise (xs zs : List Nat) : Prop where
  si : SI zs
  mem : ∀ v, v ∈ zs ↔ v ∈ xs
  pos : 0 < zs.length
  le : zs.length ≤ xs.length
theorem rise_of {xs ys : List Nat} {n : Nat} (hn : xs.length = n) (h1 : 1 ≤ n) (hr : Rel 0 n xs ys) (hs : SrtR 0 n ys) : Rise xs (ddp ys n) := by
  obtain ⟨h2, h3, h4, _⟩ := ddp_ok hs n (Nat.le_refl _)
  have hl := hr.len
  have hle := ddp_le ys n
  refine ⟨h2, fun v => ?_, h4 (by omega), by omega⟩
  rw [h3 v, ← hr.perm.mem_iff, mem_gv, hl, hn]

/- slices.Clone[[]uint64,uint64] -/
theorem cloneU_ok (w : World) (A : Option Addr) (c : Nat) (xs : List Nat) (hr : Rd w A (u64V xs)) (hb : xs.length ≤ 1000000) :
    Gives Tryd.prog 88 #[.slice A xs.length c] w fun u w1 => New w w1 (row u 23 1 xs.length (u64V xs)) := by
  have M0 := Mem.start w nof
  refine Gives.enter (n := 8) Tryd.func88 rfl Tryd.ntmps88 rfl (env := [(0, .slice A xs.length c)]) rfl ?_
  refine qD ?_
  refine qB ?_
  refine qE ?_
  refine WC.seq ?_
  refine qD ?_
  refine qA ?_
  refine WL.ex rfl rfl rfl (Ex.eqN Tryd.underlying67 rfl) ?_
  refine qE ?_
  refine WC.cond rfl (fun hc => ?_) (fun hc => ?_)
  · have hl : xs = [] := by
      cases xs with
      | nil => rfl
      | cons b r => obtain ⟨b0, o0, h1, _⟩ := hr.plain (by simp); subst h1; cases hc
    subst hl
    refine qD ?_
    refine qB ?_
    refine qE ?_
    refine WC.ret ?_
    refine WX.ret_then (?_)
    refine WX.ret1 rfl rfl ?_
    first | exact M0.toNew | exact (M0.free (r := row (.slice none 0 0) 23 1 0 []) (row_nil _ _ _) rfl).toNew
  · skip
    refine WC.skip ?_
    refine WX.next ?_
    refine qD ?_
    refine WL.ac rfl rfl rfl (Ac.bs0 M0 Tryd.underlying67 sz23) ?_; rintro v5 w5 ⟨g5, rfl, hg5, K5, M5⟩
    refine qA ?_
    refine WL.ac rfl rfl rfl (Ac.app M5 el67 rfl rfl (i := 0) rfl (by simp) (M5.rd hr) (u64V_one _) (by omega) (by unfold maxLen; omega)) ?_; rintro v7 w7 ⟨K7, M7⟩
    try dsimp only [List.set] at M7
    simp only [Nat.zero_add, List.nil_append] at M7
    refine qB ?_
    refine qE ?_
    refine WC.ret ?_
    refine WX.ret1 rfl rfl ?_
    first | exact M7.toNew | exact (M7.free (r := row (.slice none 0 0) 23 1 0 []) (row_nil _ _ _) rfl).toNew

/- slices.Compact[[]uint64,uint64] -/
theorem cmpct_ok (w : World) (g c n : Nat) (ys : List Nat) (tl : List Value) (hR : (ub g ys tl 23).sat w) (hn : ys.length = n) (h1 : 1 ≤ n) (hn50 : n < 50) (hcl : n + tl.length = c) :
    Gives Tryd.prog 90 #[.slice (some ⟨g, 0, none⟩) n c] w fun u w1 => ∃ tl2, u = .slice (some ⟨g, 0, none⟩) (ddp ys n).length c ∧ (ddp ys n).length + tl2.length = c ∧ Turn w w1 (ub g ys tl 23) (ub g (ddp ys n) tl2 23) := by
  obtain ⟨FF, hFF⟩ : ∃ FF : Nat → Prop, FF = (fun b => b ∈ (ub g ys tl 23).fp) := ⟨_, rfl⟩
  have M0 : Mem w w FF [ub g ys tl 23] := by rw [hFF]; exact Mem.begin hR
  refine Gives.enter (n := 61) Tryd.func90 rfl Tryd.ntmps90 rfl (env := [(0, .slice (some ⟨g, 0, none⟩) n c)]) rfl ?_
  refine qD ?_
  refine qB ?_
  refine qE ?_
  refine WC.seq ?_
  refine qD ?_
  refine qA ?_
  refine WL.ex rfl rfl rfl (Ex.len Tryd.underlying67 rfl) ?_
  refine WL.ex rfl rfl rfl (Ex.lss rfl rfl) ?_
  refine qE ?_
  refine WC.cond_dec rfl (fun h8 => ?_) (fun h8 => ?_)
  · have hdd : ddp ys n = ys := by
      have e : n = 1 := by omega
      rw [e, ddp_yes (.inl rfl)]
      rw [e] at hn
      exact (ddp_self (ys := ys) (by omega)).symm
    refine qD ?_
    refine qA ?_
    refine qB ?_
    refine qE ?_
    refine WC.ret ?_
    refine WX.ret_then (?_)
    refine WX.ret1 rfl rfl ?_
    subst hFF
    rw [hdd]
    exact ⟨tl, by rw [hn], by omega, M0.toTurn⟩
  · skip
    refine WC.skip ?_
    refine WX.next ?_
    refine WC.seq ?_
    refine qD ?_
    refine qB ?_
    refine qE ?_
    refine WC.block ?_
    refine WC.loop (σ := Nat) (fun k => [(0, .slice (some ⟨g, 0, none⟩) n c), (3, .int .i64 (k : Int))]) (fun k wr => 1 ≤ k ∧ k ≤ n ∧ ddp ys k = ys.take k ∧ Mem w wr FF [ub g ys tl 23]) (fun k => n - k) (1) ?_ (.cons rfl (.cons rfl (.nil))) ?_
    · exact ⟨by omega, by omega, ddp_one (by omega), M0⟩
    rintro k w8 ⟨hk1, hkn, hdk, M8⟩
    refine WC.seq ?_
    refine qD ?_
    refine qA ?_
    refine qA ?_
    refine WL.ex rfl rfl rfl (Ex.len Tryd.underlying67 rfl) ?_
    refine WL.ex rfl rfl rfl (Ex.lss rfl rfl) ?_
    refine qE ?_
    refine WC.cond_dec rfl (fun h13 => ?_) (fun h13 => ?_)
    · skip
      refine WC.skip ?_
      refine WX.next ?_
      refine WC.seq ?_
      refine WC.block ?_
      refine WC.seq ?_
      refine WC.draw (Keep nof w8.drew) [] (.one 0 0 (.one 1 0 (.one 2 0 (.one 4 0 (.one 5 0 (.one 6 0 (.one 7 0 (.one 3 1 (.one 8 1 (.one 9 0 .nil)))))))))) mixed (by kernel_rfl) (by kernel_rfl) (by kernel_rfl) (HQ.then_ (HQ.block (HQ.then_ (HQ.then_ (HQ.block (HQ.then_ HQ.body)))))) ?_
      obtain ⟨w13, hw13⟩ : ∃ v, v = w8.drew := ⟨_, rfl⟩
      have D13 : Keep nof w8 w13 := by rw [hw13]; exact Keep.drew _ _
      have M13 := M8.step D13
      rw [← hw13]; clear hw13
      refine qC ?_
      refine qC ?_
      refine WP.p rfl rfl rfl rfl (fun _ => Ex.ia Tryd.underlying67 sz23 rfl rfl ⟨by omega, by omega⟩) ?_
      refine qC ?_
      refine qC ?_
      refine WP.p rfl rfl rfl rfl (fun _ => Ex.sub rfl rfl (i64w _ (by omega) (by omega))) ?_
      refine WP.p rfl rfl rfl rfl (fun _ => Ex.ia Tryd.underlying67 sz23 rfl rfl ⟨by omega, by omega⟩) ?_
      refine WP.q (Keep.refl _ _) rfl rfl rfl rfl (fun w' hS => Ex.load ty23 rfl (hS.cell (ub_rd (M13.get (i := 0) rfl) (k := k) (by omega) (by omega)) (fun f => f))) ?_
      refine WP.q (Keep.refl _ _) rfl rfl rfl rfl (fun w' hS => Ex.load ty23 rfl (hS.cell (ub_rd (M13.get (i := 0) rfl) (k := k - 1) (by omega) (by omega)) (fun f => f))) ?_
      refine WP.p rfl rfl rfl rfl (fun _ => Ex.eqI rfl rfl) ?_
      refine WP.nil ?_
      refine WX.next ?_
      refine WC.cond_dec rfl (fun h25 => ?_) (fun h25 => ?_)
      · have hke : gv ys k = gv ys (k - 1) := by omega
        refine qD ?_
        refine qA ?_
        refine qA ?_
        refine WL.ex rfl rfl rfl (Ex.sllN Tryd.underlying67 sz23 rfl rfl (i := k) (by omega) (by omega)) ?_
        refine qB ?_
        refine qE ?_
        refine WC.seq ?_
        refine qD ?_
        refine qB ?_
        refine qE ?_
        refine WC.block ?_
        refine WC.loop (σ := Nat × Nat × List Nat) (fun s => [(0, .slice (some ⟨g, 0, none⟩) n c), (3, .int .i64 (s.2.1 : Int)), (4, .slice (some ⟨g, 0 + k * 1, none⟩) (n - k) (c - k)), (5, .int .i64 (s.1 : Int))]) (fun s wr => 1 ≤ s.1 ∧ s.1 ≤ n - k ∧ s.2.1 = (ddp ys (k + s.1)).length ∧ Cmp ys s.2.2 (k + s.1) ∧ Mem w wr FF [ub g s.2.2 tl 23]) (fun s => n - k - s.1) (((1, k, ys) : Nat × Nat × List Nat)) ?_ (.cons rfl (.cons rfl (.cons rfl (.cons rfl (.nil))))) ?_
        · exact ⟨by dsimp only; omega, by dsimp only; omega, (by dsimp only; rw [ddp_no (by omega) hke, hdk, List.length_take]; omega), .start (by omega) (by omega) hdk hke, M13⟩
        rintro ⟨m, l, zs⟩ w29 ⟨hm1, hmn, hle, hcm, M29⟩
        dsimp only at hm1 hmn hle hcm M29
        refine WC.sub (env' := [(0, .slice (some ⟨g, 0, none⟩) n c), (3, .int .i64 (l : Int)), (4, .slice (some ⟨g, 0 + k * 1, none⟩) (n - k) (c - k)), (5, .int .i64 (m : Int))]) (.cons rfl (.cons rfl (.cons rfl (.cons rfl (.nil))))) ?_
        refine WC.seq ?_
        refine qD ?_
        have hal := hcm.len
        have hlt := hcm.lt
        refine qA ?_
        refine qA ?_
        refine WL.ex rfl rfl rfl (Ex.len Tryd.underlying67 rfl) ?_
        refine WL.ex rfl rfl rfl (Ex.lss rfl rfl) ?_
        refine qE ?_
        refine WC.cond_dec rfl (fun h32 => ?_) (fun h32 => ?_)
        · skip
          refine WC.skip ?_
          refine WX.next ?_
          refine WC.seq ?_
          refine WC.block ?_
          refine WC.seq ?_
          refine WC.draw (Keep nof w29.drew) [] (.one 0 0 (.one 1 0 (.one 2 0 (.one 4 0 (.one 5 0 (.one 6 0 (.one 7 0 (.one 3 1 (.one 8 1 (.one 9 0 .nil)))))))))) mixed (by kernel_rfl) (by kernel_rfl) (by kernel_rfl) (HQ.then_ (HQ.block (HQ.then_ (HQ.then_ (HQ.block (HQ.then_ (HQ.block (HQ.then_ (HQ.then_ (HQ.block (HQ.then_ HQ.body))))))))))) ?_
          obtain ⟨w34, hw34⟩ : ∃ v, v = w29.drew := ⟨_, rfl⟩
          have D34 : Keep nof w29 w34 := by rw [hw34]; exact Keep.drew _ _
          have M34 := M29.step D34
          rw [← hw34]; clear hw34
          have hb1 := hcm.beh (k + m) (by omega)
          have hb2 := hcm.beh (k + m - 1) (by omega)
          refine qC ?_
          refine qC ?_
          refine WP.p rfl rfl rfl rfl (fun _ => Ex.ia Tryd.underlying67 sz23 rfl rfl ⟨by omega, by omega⟩) ?_
          refine qC ?_
          refine qC ?_
          refine WP.p rfl rfl rfl rfl (fun _ => Ex.sub rfl rfl (i64w _ (by omega) (by omega))) ?_
          refine WP.p rfl rfl rfl rfl (fun _ => Ex.ia Tryd.underlying67 sz23 rfl rfl ⟨by omega, by omega⟩) ?_
          refine WP.q (Keep.refl _ _) rfl rfl rfl rfl (fun w' hS => Ex.load ty23 rfl (hS.cell (ub_rd (M34.get (i := 0) rfl) (k := k + m) (by omega) (by omega)) (fun f => f))) ?_
          refine WP.q (Keep.refl _ _) rfl rfl rfl rfl (fun w' hS => Ex.load ty23 rfl (hS.cell (ub_rd (M34.get (i := 0) rfl) (k := k + m - 1) (by omega) (by omega)) (fun f => f))) ?_
          refine WP.p rfl rfl rfl rfl (fun _ => Ex.neI rfl rfl) ?_
          refine WP.nil ?_
          refine WX.next ?_
          refine WC.cond rfl (fun h44 => ?_) (fun h44 => ?_)
          · have hne : gv ys (k + m) ≠ gv ys (k + m - 1) := by
              rw [← hb1, ← hb2]
              intro e
              rw [e] at h44
              simp at h44
            have hcm2 : Cmp ys (zs.set l (gv zs (k + m))) (k + m + 1) := by rw [hle, hb1]; exact hcm.yes (by omega) hne
            have hle2 : l + 1 = (ddp ys (k + m + 1)).length := by rw [ddp_yes (.inr hne), List.length_append, List.length_singleton, hle]
            refine qD ?_
            refine qA ?_
            refine qA ?_
            refine qA ?_
            refine qA ?_
            refine WL.ex rfl rfl rfl (Ex.ia Tryd.underlying67 sz23 rfl rfl ⟨by omega, by omega⟩) ?_
            refine WL.ex rfl rfl rfl (Ex.load ty23 rfl (ub_rd (M34.get (i := 0) rfl) (k := k + m) (by omega) (by omega))) ?_
            refine WL.ex rfl rfl rfl (Ex.ia Tryd.underlying67 sz23 rfl rfl ⟨by omega, by omega⟩) ?_
            refine WL.ac0 rfl rfl (Ac.stU M34 ty23 rfl rfl (v := gv zs (k + m)) (i := 0) rfl (k := l) (by omega) (by (try simp only [List.length_set, swp_len]); omega)) ?_; rintro v52 w52 ⟨K52, M52⟩
            try dsimp only [List.set] at M52
            refine qE ?_
            refine WC.region ?_
            refine qA ?_
            refine WL.ex rfl rfl rfl (Ex.add rfl rfl (c := ((l + 1 : Nat) : Int)) (wrapN (by omega) (by omega))) ?_
            refine qB ?_
            refine WL.nil ?_
            refine WX.normal_block (WX.next (?_))
            refine WC.region ?_
            refine qA ?_
            refine WL.ex rfl rfl rfl (Ex.add rfl rfl (c := ((m + 1 : Nat) : Int)) (wrapN (by omega) (by omega))) ?_
            refine qB ?_
            refine WL.nil ?_
            refine WX.again (((m + 1, l + 1, zs.set l (gv zs (k + m))) : Nat × Nat × List Nat)) ?_ ?_ (.cons rfl (.cons rfl (.cons rfl (.cons rfl (.nil)))))
            · dsimp only; omega
            · exact ⟨by dsimp only; omega, by dsimp only; omega, hle2, hcm2, M52⟩
          · have heq : gv ys (k + m) = gv ys (k + m - 1) := by
              rw [← hb1, ← hb2]
              have h45 : ((gv zs (k + m) : Nat) : Int) = ((gv zs (k + m - 1) : Nat) : Int) := by simpa using h44
              omega
            have hcm2 := hcm.no (by omega) heq
            have hle2 : l = (ddp ys (k + m + 1)).length := by rw [ddp_no (by omega) heq]; exact hle
            refine WC.skip ?_
            refine WX.normal_block (WX.next (?_))
            refine WC.region ?_
            refine qA ?_
            refine WL.ex rfl rfl rfl (Ex.add rfl rfl (c := ((m + 1 : Nat) : Int)) (wrapN (by omega) (by omega))) ?_
            refine qB ?_
            refine WL.nil ?_
            refine WX.again (((m + 1, l, zs) : Nat × Nat × List Nat)) ?_ ?_ (.cons rfl (.cons rfl (.cons rfl (.cons rfl (.nil)))))
            · dsimp only; omega
            · exact ⟨by dsimp only; omega, by dsimp only; omega, hle2, hcm2, M34⟩
        · have e : k + m = n := by omega
          rw [e] at hle hcm
          have hlt2 := hcm.lt
          refine WC.exit ?_
          refine WX.exit_then (WX.exit_then (WX.exit_block (WX.next (?_))))
          refine qD ?_
          refine qA ?_
          refine qA ?_
          refine WL.ex rfl rfl rfl (Ex.sllN Tryd.underlying67 sz23 rfl rfl (i := l) (by omega) (by omega)) ?_
          refine WL.ac0 rfl rfl (acClr M29 Tryd.underlying67 (zs := [.int .u64 0]) (by kernel_rfl) rfl (by intro u hu; simp at hu; subst hu; rfl) (i := 0) rfl (by simp; omega)) ?_; rintro v65 w65 ⟨l2, hl2, ht2, K65, M65⟩
          try dsimp only [List.set] at M65
          refine qE ?_
          refine qD ?_
          refine qA ?_
          refine qA ?_
          refine WL.ex rfl rfl rfl (Ex.slh Tryd.underlying67 sz23 rfl rfl (Int.natCast_nonneg _) (by omega)) ?_
          rw [Int.toNat_natCast]
          refine qB ?_
          refine qE ?_
          refine WC.ret ?_
          refine WX.ret_block (WX.ret_then (WX.ret_then (WX.ret_block (WX.ret_then (?_)))))
          refine WX.ret1 rfl rfl ?_
          subst hFF
          obtain ⟨tl2, ht3⟩ : ∃ t, l2 = u64V (ddp ys n) ++ t := ⟨l2.drop l, cmp_fin hcm hle hn ht2⟩
          subst ht3
          exact ⟨tl2, by rw [hle], by have h5 := hl2; simp at h5; omega, M65.toTurn⟩
      · skip
        refine WC.skip ?_
        refine WX.normal_block (WX.next (?_))
        refine WC.region ?_
        refine qA ?_
        refine WL.ex rfl rfl rfl (Ex.add rfl rfl (c := ((k + 1 : Nat) : Int)) (wrapN (by omega) (by omega))) ?_
        refine qB ?_
        refine WL.nil ?_
        refine WX.again (k + 1) ?_ ?_ (.cons rfl (.cons rfl (.nil)))
        · omega
        · exact ⟨by omega, by omega, (by rw [ddp_yes (.inr (fun e => h25 (by omega))), hdk, take_snoc (gv_get (by omega))]), M13⟩
    · have hdd : ddp ys n = ys := by
        have e : k = n := by omega
        rw [← e, hdk, List.take_of_length_le (by omega)]
      refine WC.exit ?_
      refine WX.exit_then (WX.exit_then (WX.exit_block (WX.next (?_))))
      refine qD ?_
      refine qA ?_
      refine qB ?_
      refine qE ?_
      refine WC.ret ?_
      refine WX.ret1 rfl rfl ?_
      subst hFF
      rw [hdd]
      exact ⟨tl, by rw [hn], by omega, M8.toTurn⟩

/- sponsion/multi.sorted -/
theorem sorted_ok (w : World) (A : Option Addr) (c : Nat) (xs : List Nat) (hr : Rd w A (u64V xs)) (h1 : 1 ≤ xs.length) (hn50 : xs.length < 50) :
    Gives Tryd.prog 61 #[.slice A xs.length c] w fun u w1 => ∃ g zs tl c', u = .slice (some ⟨g, 0, none⟩) zs.length c' ∧ Rise xs zs ∧ zs.length + tl.length = c' ∧ c' ≤ maxLen ∧ New w w1 (ub g zs tl 23) := by
  have M0 := Mem.start w nof
  refine Gives.enter (n := 10) Tryd.func61 rfl Tryd.ntmps61 rfl (env := [(0, .slice A xs.length c)]) rfl ?_
  refine qD ?_
  refine qB ?_
  refine qE ?_
  refine qD ?_
  refine qA ?_
  refine WL.ac rfl rfl rfl (Ac.call rfl Tryd.func88 nm88 rfl (cloneU_ok w A c xs (M0.rd hr) (by omega))) ?_; rintro v3 w3 N3
  have M3 := M0.new N3
  obtain ⟨A1, c1, rfl⟩ := own_slice (M3.get (i := 0) rfl)
  obtain ⟨g, tl, rfl, hnc, hcm, hxl, hyl, M3b⟩ := mem_rowblk M3 (i := 0) rfl (by omega)
  replace M3 : Mem w _ nof [ub g xs tl 23] := M3b
  refine qB ?_
  refine qE ?_
  refine qD ?_
  refine qA ?_
  refine WL.ac rfl rfl rfl (Ac.call rfl Tryd.func89 nm89 rfl (sort_ok w3 g c1 xs.length xs tl (M3.get (i := 0) rfl) rfl hn50)) ?_; rintro v6 w6 ⟨ys, hrl, hso, T6⟩
  have M6 := M3.turned (i := 0) rfl T6
  try dsimp only [List.set] at M6
  have hyn := hrl.len
  refine qE ?_
  refine qD ?_
  refine qA ?_
  refine WL.ac rfl rfl rfl (Ac.call rfl Tryd.func90 nm90 rfl (cmpct_ok w6 g c1 xs.length ys tl (M6.get (i := 0) rfl) hyn (by omega) hn50 (by have h5 := hyl; simp at h5; omega))) ?_; rintro v8 w8 ⟨tl2, rfl, htl2, T8⟩
  have M8 := M6.turned (i := 0) rfl T8
  try dsimp only [List.set] at M8
  refine qB ?_
  refine qE ?_
  refine WC.ret ?_
  refine WX.ret1 rfl rfl ?_
  exact ⟨g, ddp ys xs.length, tl2, c1, rfl, rise_of rfl h1 hrl hso, htl2, hcm, M8.toNew⟩

end Go.Proofs.YtchmjpdkonfifaaDoor

set_option linter.unusedVariables false
set_option linter.unusedSimpArgs false
namespace Go.Proofs.YtchmjpdkonfifaaDoor
open Go.Sx Go.RowKit
attribute [local irreducible] Ac Ex WL WC WX WP Gives

abbrev PredU (fv : Value) (S : World → Prop) (q : Nat → Bool) : Prop := ∀ (w' : World) (x : Nat), S w' → CallV Tryd.prog fv w' [.int .u64 (x : Int)] fun u w2 => u = .bool (q x) ∧ Keep nof w' w2
theorem shr_eq (x d : Nat) (h : d ≤ 32) : ((x : Int).fdiv (2 ^ (min d IntKind.u64.bits))) = ((x / 2 ^ d : Nat) : Int) := by
  rw [show min d IntKind.u64.bits = d from Nat.min_eq_left (by show d ≤ 64; omega)]
  rw [Int.fdiv_eq_ediv_of_nonneg _ (Int.le_of_lt (Int.pow_pos (by decide)))]
  simp
theorem bey_iff (x d : Nat) : (x / 2 ^ d = 0) ↔ x < 2 ^ d := by
  rw [Nat.div_eq_zero_iff]
  have : 0 < 2 ^ d := Nat.two_pow_pos d
  omega
theorem any_none {q : Nat → Bool} {xs : List Nat} (h : ∀ k, k < xs.length → q (gv xs k) = false) : xs.any q = false := by
  rw [List.any_eq_false]
  intro x hx
  obtain ⟨k, hk, rfl⟩ := mem_gv.1 hx
  simp [h k hk]
theorem any_hit {q : Nat → Bool} {xs : List Nat} {k : Nat} (hk : k < xs.length) (h : q (gv xs k) = true) : xs.any q = true := List.any_eq_true.2 ⟨_, gv_mem hk, h⟩
theorem u64_at {w : World} {xs : List Nat} {k : Nat} {b o : Nat} (h : Rd w (some ⟨b, o, none⟩) (u64V xs)) (hk : k < xs.length) {o' : Nat} (ho : o' = o + k) : w.cell? ⟨b, o', none⟩ = some (.int .u64 (gv xs k : Int)) := by
  rw [ho]; exact h.at1 (u64V_get hk)

/- sponsion/multi.beyond$1 -/
theorem bey1_ok (w : World) (gd d x : Nat) (hc : w.cell? ⟨gd, 0, none⟩ = some (.int .i64 (d : Int))) (hd : d ≤ 32) :
    Gives Tryd.prog 92 #[.int .u64 (x : Int), .pointer (some ⟨gd, 0, none⟩)] w fun u w1 => u = .bool (decide (2 ^ d ≤ x)) ∧ Keep nof w w1 := by
  have M0 := Mem.start w nof
  refine Gives.enter (n := 8) Tryd.func92 rfl Tryd.ntmps92 rfl (env := [(0, .int .u64 (x : Int)), (1, .pointer (some ⟨gd, 0, none⟩))]) rfl ?_
  refine qD ?_
  refine qB ?_
  refine qE ?_
  refine qD ?_
  refine qA ?_
  refine WL.ex rfl rfl rfl (Ex.load ty3 rfl (M0.keep.cell hc (fun f => f))) ?_
  refine WL.ex rfl rfl rfl (Ex.shr rfl rfl (m := d) rfl (shr_eq x d hd)) ?_
  refine WL.ex rfl rfl rfl (Ex.neI rfl rfl) ?_
  rw [show (!decide (((x / 2 ^ d : Nat) : Int) = 0)) = decide (2 ^ d ≤ x) by
    rw [show decide (((x / 2 ^ d : Nat) : Int) = 0) = decide (x < 2 ^ d) from decide_eq_decide.2 (by rw [← bey_iff]; omega)]
    by_cases e : x < 2 ^ d
    · rw [decide_eq_true e, decide_eq_false (by omega)]; rfl
    · rw [decide_eq_false e, decide_eq_true (by omega)]; rfl]
  refine qB ?_
  refine qE ?_
  refine WC.ret ?_
  refine WX.ret1 rfl rfl ?_
  exact ⟨rfl, M0.keep⟩

/- slices.IndexFunc[[]uint64,uint64] -/
theorem ixU_ok (w : World) (A : Option Addr) (c : Nat) (xs : List Nat) (fv : Value) (q : Nat → Bool) (hr : Rd w A (u64V xs)) (hb : xs.length ≤ 1000000) (hq : PredU fv (Keep nof w) q) :
    Gives Tryd.prog 108 #[.slice A xs.length c, fv] w fun u w1 => ∃ z : Int, u = .int .i64 z ∧ decide (z ≥ 0) = xs.any q ∧ Keep nof w w1 := by
  have M0 := Mem.start w nof
  refine Gives.enter (n := 19) Tryd.func108 rfl Tryd.ntmps108 rfl (env := [(0, .slice A xs.length c), (1, fv)]) rfl ?_
  refine qD ?_
  refine qB ?_
  refine qE ?_
  refine WC.seq ?_
  refine qD ?_
  refine qA ?_
  refine WL.ex rfl rfl rfl (Ex.len Tryd.underlying67 rfl) ?_
  refine qA ?_
  refine qE ?_
  refine WC.block ?_
  refine WC.loop (σ := Nat) (fun i => [(0, .slice A xs.length c), (1, fv), (7, .int .i64 (xs.length : Int)), (8, .int .i64 (i : Int))]) (fun i wr => i ≤ xs.length ∧ (∀ k, k < i → q (gv xs k) = false) ∧ Mem w wr nof []) (fun i => xs.length - i) (0) ?_ (.cons rfl (.cons rfl (.cons rfl (.cons rfl (.nil))))) ?_
  · exact ⟨by omega, (fun k h => by omega), M0⟩
  rintro i w5 ⟨hi, hno, M5⟩
  refine qD ?_
  refine WL.ex rfl rfl rfl (Ex.lss rfl rfl) ?_
  refine qE ?_
  refine WC.seq ?_
  refine WC.cond_dec rfl (fun hc9 => ?_) (fun hc9 => ?_)
  · obtain ⟨b0, o0, hA, _⟩ := hr.plain (by simp; omega)
    subst hA
    refine WC.skip ?_
    refine WX.next ?_
    refine WC.seq ?_
    refine WC.block ?_
    refine qD ?_
    refine qA ?_
    refine qB ?_
    refine qE ?_
    refine qD ?_
    refine qA ?_
    refine qA ?_
    refine qA ?_
    refine WL.ex rfl rfl rfl (Ex.ia Tryd.underlying67 sz23 rfl rfl ⟨by omega, by omega⟩) ?_
    refine WL.ex rfl rfl rfl (Ex.load ty23 rfl (u64_at (M5.rd hr) (k := i) (by omega) (by omega))) ?_
    refine WL.ac rfl rfl rfl (Ac.callv rfl rfl (hq w5 (gv xs i) M5.keep)) ?_; rintro v14 w14 ⟨rfl, K14⟩
    have M14 := M5.step K14
    refine qE ?_
    refine WC.cond rfl (fun h16 => ?_) (fun h16 => ?_)
    · have hyy : xs.any q = true := any_hit (by omega) h16
      refine qD ?_
      refine qA ?_
      refine qB ?_
      refine qE ?_
      refine WC.ret ?_
      refine WX.ret_block (WX.ret_then (WX.ret_then (WX.ret_block (WX.ret_then (?_)))))
      refine WX.ret1 rfl rfl ?_
      first | exact ⟨_, rfl, by rw [hyy]; exact decide_eq_true (by omega), M14.keep⟩ | exact ⟨_, rfl, by rw [hnn]; exact decide_eq_false (by omega), M14.keep⟩
    · skip
      refine WC.skip ?_
      refine WX.normal_block (WX.next (?_))
      refine WC.region ?_
      refine WL.ex rfl rfl rfl (Ex.add rfl rfl (i64w _ (by omega) (by omega))) ?_
      refine qA ?_
      refine WL.nil ?_
      refine WX.again (i + 1) ?_ ?_ (.cons rfl (.cons rfl (.cons rfl (.cons rfl (.nil)))))
      · omega
      · exact ⟨by omega, (fun k h => by
          by_cases e : k = i
          · rw [e]; simpa using h16
          · exact hno k (by omega)), M14⟩
  · have hnn : xs.any q = false := any_none (fun k hk => hno k (by omega))
    refine WC.exit ?_
    refine WX.exit_then (WX.exit_then (WX.exit_block (WX.next (?_))))
    refine qD ?_
    refine qB ?_
    refine qE ?_
    refine WC.ret ?_
    refine WX.ret1 rfl rfl ?_
    first | exact ⟨_, rfl, by rw [hyy]; exact decide_eq_true (by omega), M5.keep⟩ | exact ⟨_, rfl, by rw [hnn]; exact decide_eq_false (by omega), M5.keep⟩

/- slices.ContainsFunc[[]uint64,uint64] -/
theorem cfU_ok (w : World) (A : Option Addr) (c : Nat) (xs : List Nat) (fv : Value) (q : Nat → Bool) (hr : Rd w A (u64V xs)) (hb : xs.length ≤ 1000000) (hq : PredU fv (Keep nof w) q) :
    Gives Tryd.prog 91 #[.slice A xs.length c, fv] w fun u w1 => u = .bool (xs.any q) ∧ Keep nof w w1 := by
  have M0 := Mem.start w nof
  refine Gives.enter (n := 9) Tryd.func91 rfl Tryd.ntmps91 rfl (env := [(0, .slice A xs.length c), (1, fv)]) rfl ?_
  refine qD ?_
  refine qB ?_
  refine qE ?_
  refine qD ?_
  refine qA ?_
  refine qA ?_
  refine WL.ac rfl rfl rfl (Ac.call rfl Tryd.func108 nm108 rfl (ixU_ok w A c xs fv q (M0.rd hr) hb (fun w1 x K => hq w1 x (M0.keep.trans K)))) ?_; rintro v4 w4 ⟨z, rfl, hz, K4⟩
  have M4 := M0.step K4
  refine WL.ex rfl rfl rfl (Ex.geq rfl rfl) ?_
  rw [show decide ((0 : Int) ≤ z) = xs.any q from hz]
  refine qB ?_
  refine qE ?_
  refine WC.ret ?_
  refine WX.ret1 rfl rfl ?_
  exact ⟨rfl, M4.keep⟩

/- sponsion/multi.beyond -/
theorem bey_ok (w : World) (A : Option Addr) (c d : Nat) (xs : List Nat) (hr : Rd w A (u64V xs)) (hb : xs.length ≤ 1000000) (hd : d ≤ 32) :
    Gives Tryd.prog 66 #[.int .i64 (d : Int), .slice A xs.length c] w fun u w1 => u = .bool (xs.any fun x => decide (2 ^ d ≤ x)) ∧ Keep nof w w1 := by
  have M0 := Mem.start w nof
  refine Gives.enter (n := 8) Tryd.func66 rfl Tryd.ntmps66 rfl (env := [(0, .int .i64 (d : Int)), (1, .slice A xs.length c)]) rfl ?_
  refine qD ?_
  refine WL.ac rfl rfl rfl (Ac.box M0 rfl (l := [.int .i64 (d : Int)]) rfl) ?_; rintro v1 w1 ⟨gd, rfl, hg1, K1, M1⟩
  refine qB ?_
  refine qE ?_
  refine qD ?_
  refine qA ?_
  refine WL.ex rfl rfl rfl (Ex.mkf (f' := []) (c' := [.pointer (some ⟨gd, 0, none⟩)]) rfl rfl) ?_
  refine WL.ac rfl rfl rfl (Ac.call rfl Tryd.func91 nm91 rfl ((cfU_ok w1 A c xs _ (fun x => decide (2 ^ d ≤ x)) (M1.rd hr) hb (fun w1 x K => ⟨_, _, [], [.pointer (some ⟨gd, 0, none⟩)], rfl, Tryd.func92, by kernel_rfl, rfl, bey1_ok w1 gd d x (K.cell (M1.cell (i := 0) rfl rfl) (fun f => f)) hd⟩)))) ?_; rintro v5 w5 ⟨rfl, K5⟩
  have M5 := M1.step K5
  refine qB ?_
  refine qE ?_
  refine WC.ret ?_
  refine WX.ret1 rfl rfl ?_
  exact ⟨rfl, M5.keep⟩

/- slices.Equal[[]uint64,uint64] -/
theorem eqU_ok (w : World) (A B : Option Addr) (c d : Nat) (xs ys : List Nat) (hr : Rd w A (u64V xs)) (hr2 : Rd w B (u64V ys)) (hb : xs.length ≤ 1000000) (hb2 : ys.length ≤ 1000000) :
    Gives Tryd.prog 93 #[.slice A xs.length c, .slice B ys.length d] w fun u w1 => u = .bool (decide (xs = ys)) ∧ Keep nof w w1 := by
  have M0 := Mem.start w nof
  refine Gives.enter (n := 26) Tryd.func93 rfl Tryd.ntmps93 rfl (env := [(0, .slice A xs.length c), (1, .slice B ys.length d)]) rfl ?_
  refine qD ?_
  refine qB ?_
  refine qE ?_
  refine WC.seq ?_
  refine qD ?_
  refine qA ?_
  refine WL.ex rfl rfl rfl (Ex.len Tryd.underlying67 rfl) ?_
  refine qA ?_
  refine WL.ex rfl rfl rfl (Ex.len Tryd.underlying67 rfl) ?_
  refine WL.ex rfl rfl rfl (Ex.neI rfl rfl) ?_
  refine qE ?_
  refine WC.cond rfl (fun h10 => ?_) (fun h10 => ?_)
  · have hne : xs ≠ ys := fun e => by subst e; simp at h10
    refine qD ?_
    refine qB ?_
    refine qE ?_
    refine WC.ret ?_
    refine WX.ret_then (?_)
    refine WX.ret1 rfl rfl ?_
    first | rw [decide_eq_false hne] | rw [decide_eq_true hyy]
    exact ⟨rfl, M0.keep⟩
  · have hll : xs.length = ys.length := by
      have h11 : (xs.length : Int) = (ys.length : Int) := by simpa using h10
      omega
    refine WC.skip ?_
    refine WX.next ?_
    refine WC.seq ?_
    refine qD ?_
    refine qA ?_
    refine WL.ex rfl rfl rfl (Ex.len Tryd.underlying67 rfl) ?_
    refine qA ?_
    refine qE ?_
    refine WC.block ?_
    refine WC.loop (σ := Nat) (fun i => [(0, .slice A xs.length c), (1, .slice B ys.length d), (12, .int .i64 (xs.length : Int)), (13, .int .i64 (i : Int))]) (fun i wr => i ≤ xs.length ∧ (∀ k, k < i → gv xs k = gv ys k) ∧ Mem w wr nof []) (fun i => xs.length - i) (0) ?_ (.cons rfl (.cons rfl (.cons rfl (.cons rfl (.nil))))) ?_
    · exact ⟨by omega, (fun k h => by omega), M0⟩
    rintro i w11 ⟨hi, heq, M11⟩
    refine qD ?_
    refine WL.ex rfl rfl rfl (Ex.lss rfl rfl) ?_
    refine qE ?_
    refine WC.seq ?_
    refine WC.cond_dec rfl (fun hc14 => ?_) (fun hc14 => ?_)
    · obtain ⟨b0, o0, hA, _⟩ := hr.plain (by simp; omega)
      subst hA
      obtain ⟨b1, o1, hB, _⟩ := hr2.plain (by simp; omega)
      subst hB
      refine WC.skip ?_
      refine WX.next ?_
      refine WC.seq ?_
      refine WC.block ?_
      refine qD ?_
      refine qA ?_
      refine qB ?_
      refine qE ?_
      refine WC.seq ?_
      refine WC.draw (Keep nof w11.drew) [] (.one 0 0 (.one 1 0 (.one 2 0 (.one 4 0 (.one 5 0 (.one 6 0 (.one 3 1 (.one 7 1 (.one 8 0 .nil))))))))) mixed (by kernel_rfl) (by kernel_rfl) (by kernel_rfl) (HQ.then_ (HQ.block (HQ.then_ (HQ.then_ (HQ.block (HQ.then_ HQ.body)))))) ?_
      obtain ⟨w15, hw15⟩ : ∃ v, v = w11.drew := ⟨_, rfl⟩
      have D15 : Keep nof w11 w15 := by rw [hw15]; exact Keep.drew _ _
      have M15 := M11.step D15
      rw [← hw15]; clear hw15
      refine qC ?_
      refine qC ?_
      refine WP.p rfl rfl rfl rfl (fun _ => Ex.ia Tryd.underlying67 sz23 rfl rfl ⟨by omega, by omega⟩) ?_
      refine qC ?_
      refine qC ?_
      refine WP.p rfl rfl rfl rfl (fun _ => Ex.ia Tryd.underlying67 sz23 rfl rfl ⟨by omega, by omega⟩) ?_
      refine WP.q (Keep.refl _ _) rfl rfl rfl rfl (fun w' hS => Ex.load ty23 rfl (u64_at ((M15.rd hr).keep0 hS) (k := i) (by omega) (by omega))) ?_
      refine WP.q (Keep.refl _ _) rfl rfl rfl rfl (fun w' hS => Ex.load ty23 rfl (u64_at ((M15.rd hr2).keep0 hS) (k := i) (by omega) (by omega))) ?_
      refine WP.p rfl rfl rfl rfl (fun _ => Ex.neI rfl rfl) ?_
      refine WP.nil ?_
      refine WX.next ?_
      refine WC.cond rfl (fun h24 => ?_) (fun h24 => ?_)
      · have hne : xs ≠ ys := fun e => by subst e; simp at h24
        refine qD ?_
        refine qB ?_
        refine qE ?_
        refine WC.ret ?_
        refine WX.ret_block (WX.ret_then (WX.ret_then (WX.ret_block (WX.ret_then (?_)))))
        refine WX.ret1 rfl rfl ?_
        first | rw [decide_eq_false hne] | rw [decide_eq_true hyy]
        exact ⟨rfl, M15.keep⟩
      · have hkk : gv xs i = gv ys i := by
          have h25 : ((gv xs i : Nat) : Int) = ((gv ys i : Nat) : Int) := by simpa using h24
          omega
        refine WC.skip ?_
        refine WX.normal_block (WX.next (?_))
        refine WC.region ?_
        refine WL.ex rfl rfl rfl (Ex.add rfl rfl (i64w _ (by omega) (by omega))) ?_
        refine qA ?_
        refine WL.nil ?_
        refine WX.again (i + 1) ?_ ?_ (.cons rfl (.cons rfl (.cons rfl (.cons rfl (.nil)))))
        · omega
        · exact ⟨by omega, (fun k h => by
            by_cases e : k = i
            · rw [e]; exact hkk
            · exact heq k (by omega)), M15⟩
    · have hyy : xs = ys := List.ext_getElem? (fun k => by
        by_cases hk : k < xs.length
        · rw [gv_get hk, gv_get (by omega), heq k (by omega)]
        · rw [List.getElem?_eq_none (by omega), List.getElem?_eq_none (by omega)])
      refine WC.exit ?_
      refine WX.exit_then (WX.exit_then (WX.exit_block (WX.next (?_))))
      refine qD ?_
      refine qB ?_
      refine qE ?_
      refine WC.ret ?_
      refine WX.ret1 rfl rfl ?_
      first | rw [decide_eq_false hne] | rw [decide_eq_true hyy]
      exact ⟨rfl, M11.keep⟩

def mxp (xs : List Nat) : Nat → Nat
  | 0 => 0
  | i + 1 => max (mxp xs i) (gv xs i)
theorem mxp_ge (xs : List Nat) : ∀ i k, k < i → gv xs k ≤ mxp xs i
  | i + 1, k, h => by
    by_cases e : k = i
    · rw [e]; exact Nat.le_max_right _ _
    · exact Nat.le_trans (mxp_ge xs i k (by omega)) (Nat.le_max_left _ _)
theorem mxp_at (xs : List Nat) : ∀ i, 0 < i → ∃ k, k < i ∧ mxp xs i = gv xs k
  | 1, _ => ⟨0, by omega, by simp [mxp]⟩
  | i + 2, _ => by
    obtain ⟨k, hk, e⟩ := mxp_at xs (i + 1) (by omega)
    by_cases h : gv xs (i + 1) ≤ mxp xs (i + 1)
    · exact ⟨k, by omega, by rw [show mxp xs (i + 2) = max (mxp xs (i + 1)) (gv xs (i + 1)) from rfl, Nat.max_eq_left h, e]⟩
    · exact ⟨i + 1, by omega, by rw [show mxp xs (i + 2) = max (mxp xs (i + 1)) (gv xs (i + 1)) from rfl, Nat.max_eq_right (by omega)]⟩

/- slices.Max[[]uint64,uint64] -/
theorem mxU_ok (w : World) (A : Option Addr) (c : Nat) (xs : List Nat) (hr : Rd w A (u64V xs)) (h1 : 1 ≤ xs.length) (hb : xs.length ≤ 1000000) :
    Gives Tryd.prog 60 #[.slice A xs.length c] w fun u w1 => u = .int .u64 (mxp xs xs.length : Int) ∧ Keep nof w w1 := by
  have M0 := Mem.start w nof
  refine Gives.enter (n := 25) Tryd.func60 rfl Tryd.ntmps60 rfl (env := [(0, .slice A xs.length c)]) rfl ?_
  obtain ⟨b0, o0, hA, _⟩ := hr.plain (by simp; omega)
  subst hA
  refine qD ?_
  refine qB ?_
  refine qE ?_
  refine WC.seq ?_
  refine qD ?_
  refine qA ?_
  refine WL.ex rfl rfl rfl (Ex.len Tryd.underlying67 rfl) ?_
  refine WL.ex rfl rfl rfl (Ex.lss rfl rfl) ?_
  refine qE ?_
  refine WC.cond_dec rfl (fun h7 => ?_) (fun h7 => ?_)
  · exact absurd h7 (by omega)
  · skip
    refine WC.skip ?_
    refine WX.next ?_
    refine qD ?_
    refine qA ?_
    refine WL.ex rfl rfl rfl (Ex.ia Tryd.underlying67 sz23 rfl rfl ⟨by omega, by omega⟩) ?_
    refine WL.ex rfl rfl rfl (Ex.load ty23 rfl (u64_at (M0.rd hr) (k := 0) (by omega) (by simp))) ?_
    rw [show gv xs 0 = mxp xs 1 by simp [mxp]]
    refine qB ?_
    refine qE ?_
    refine WC.seq ?_
    refine qD ?_
    refine qB ?_
    refine qE ?_
    refine WC.block ?_
    refine WC.loop (σ := Nat) (fun i => [(0, .slice (some ⟨b0, o0, none⟩) xs.length c), (3, .int .u64 (mxp xs i : Int)), (4, .int .i64 (i : Int))]) (fun i wr => 1 ≤ i ∧ i ≤ xs.length ∧ Mem w wr nof []) (fun i => xs.length - i) (1) ?_ (.cons rfl (.cons rfl (.cons rfl (.nil)))) ?_
    · exact ⟨by omega, by omega, M0⟩
    rintro i w10 ⟨hi1, hi2, M10⟩
    refine WC.seq ?_
    refine qD ?_
    refine qA ?_
    refine qA ?_
    refine WL.ex rfl rfl rfl (Ex.len Tryd.underlying67 rfl) ?_
    refine WL.ex rfl rfl rfl (Ex.lss rfl rfl) ?_
    refine qE ?_
    refine WC.cond_dec rfl (fun hc15 => ?_) (fun hc15 => ?_)
    · skip
      refine WC.skip ?_
      refine WX.next ?_
      refine WC.seq ?_
      refine WC.block ?_
      refine WC.region ?_
      refine qA ?_
      refine qA ?_
      refine qA ?_
      refine WL.ex rfl rfl rfl (Ex.ia Tryd.underlying67 sz23 rfl rfl ⟨by omega, by omega⟩) ?_
      refine WL.ex rfl rfl rfl (Ex.load ty23 rfl (u64_at (M10.rd hr) (k := i) (by omega) (by omega))) ?_
      refine WL.ex rfl rfl rfl (Ex.max2 rfl rfl (c := ((mxp xs (i + 1) : Nat) : Int)) (by rw [show mxp xs (i + 1) = max (mxp xs i) (gv xs i) from rfl]; split <;> omega)) ?_
      refine qB ?_
      refine WL.nil ?_
      refine WX.normal_block (WX.next (?_))
      refine WC.region ?_
      refine qA ?_
      refine WL.ex rfl rfl rfl (Ex.add rfl rfl (c := ((i + 1 : Nat) : Int)) (wrapN (by omega) (by omega))) ?_
      refine qB ?_
      refine WL.nil ?_
      refine WX.again (i + 1) ?_ ?_ (.cons rfl (.cons rfl (.cons rfl (.nil))))
      · omega
      · exact ⟨by omega, by omega, M10⟩
    · obtain rfl : i = xs.length := by omega
      refine WC.exit ?_
      refine WX.exit_then (WX.exit_then (WX.exit_block (WX.next (?_))))
      refine qD ?_
      refine qA ?_
      refine qB ?_
      refine qE ?_
      refine WC.ret ?_
      refine WX.ret1 rfl rfl ?_
      exact ⟨rfl, M10.keep⟩

end Go.Proofs.YtchmjpdkonfifaaDoor

set_option linter.unusedVariables false
set_option linter.unusedSimpArgs false
namespace Go.Proofs.YtchmjpdkonfifaaDoor
open Go.Sx Go.RowKit
attribute [local irreducible] Ac Ex WL WC WX WP Gives

theorem xor1_lt {i : Nat} (h : i < 18446744073709551616) : i ^^^ 1 < 18446744073709551616 := Nat.xor_lt_two_pow (n := 64) h (by decide)
theorem keepR {r : Res} {FF : Nat → Prop} {w W : World} (K : Keep FF w W) (h : r.sat w) (hd : ∀ b ∈ r.fp, ¬ FF b) : r.sat W := r.loc w W h fun b hb => K.block b (r.lt w h b hb) (hd b hb)
theorem gv_snoc_lt {acc : List Nat} {x B : Nat} (h : ∀ j, gv acc j < B) (hx : x < B) : ∀ j, gv (acc ++ [x]) j < B := fun j => by
  rw [gv_app]
  split
  · exact h j
  · by_cases e : j - acc.length = 0
    · rw [e]; exact hx
    · unfold gv
      rw [List.getD_eq_getElem?_getD, List.getElem?_eq_none (by simp; omega)]
      exact Nat.lt_of_le_of_lt (Nat.zero_le _) hx

/- sponsion/multi.climb -/
theorem mclimb_ok {σ τ : Type} (fl : τ → Nat → Nat → Option τ) (fp : τ → Nat → Bool → τ) (Jr : σ → Res) (ab : σ → τ) (w : World) (A : Option Addr) (c d : Nat) (zs : List Nat) (lv pv : Value) (s0 : σ) (hJ : (Jr s0).sat w) (hr : Rd w A (u64V zs)) (hA : ∀ b, A = some b → b.block ∉ (Jr s0).fp) (hd : d ≤ 32) (h1 : 1 ≤ zs.length) (hz : zs.length ≤ 50) (hzb : ∀ k, gv zs k < 18446744073709551616)
    (sz : τ → Nat) (hz0 : sz (ab s0) = 0) (hzl : ∀ t l i t2, fl t l i = some t2 → sz t2 ≤ sz t + 1) (hzp : ∀ t i b, sz (fp t i b) ≤ sz t)
    (hl : ∀ s W (l i : Nat), sz (ab s) ≤ 1650 → l ≤ 32 → i < 18446744073709551616 → Keep (fun b => b ∈ (Jr s0).fp) w W → (Jr s).sat W → CallV Tryd.prog lv W [.int .i64 (l : Int), .int .u64 (i : Int)] fun u W' => ∃ s' b, u = .bool b ∧ Turn W W' (Jr s) (Jr s') ∧ fl (ab s) l i = (if b then some (ab s') else none))
    (hp : ∀ s W (i : Nat) both, Keep (fun b => b ∈ (Jr s0).fp) w W → (Jr s).sat W → CallV Tryd.prog pv W [.int .u64 (i : Int), .bool both] fun u W' => ∃ s', Turn W W' (Jr s) (Jr s') ∧ ab s' = fp (ab s) i both) :
    Gives Tryd.prog 63 #[.int .i64 (d : Int), .slice A zs.length c, lv, pv] w fun u w1 => ∃ s1 b, u = .bool b ∧ Turn w w1 (Jr s0) (Jr s1) ∧ climbF fl fp d 0 zs (ab s0) = (if b then some (ab s1) else none) := by
  obtain ⟨FF, hFF⟩ : ∃ FF : Nat → Prop, FF = (fun b => b ∈ (Jr s0).fp) := ⟨_, rfl⟩
  have M0 : Mem w w FF [Jr s0] := by rw [hFF]; exact Mem.begin hJ
  refine Gives.enter (n := 68) Tryd.func63 rfl Tryd.ntmps63 rfl (env := [(0, .int .i64 (d : Int)), (1, .slice A zs.length c), (2, lv), (3, pv)]) rfl ?_
  obtain ⟨b1, o1, hA1, _⟩ := hr.plain (by simp; omega)
  subst hA1
  have hAF : ¬ FF b1 := by rw [hFF]; exact hA _ rfl
  refine qD ?_
  refine qB ?_
  refine qE ?_
  refine WC.seq ?_
  refine qD ?_
  refine qA ?_
  refine qA ?_
  refine qE ?_
  refine WC.block ?_
  refine WC.loop (σ := Nat × Bool × Nat × Nat × Nat × List Nat × σ) (fun s => [(1, .slice (some ⟨s.2.2.1, s.2.2.2.1, none⟩) (List.length s.2.2.2.2.2.1) s.2.2.2.2.1), (2, lv), (3, pv), (14, .int .i64 (d : Int)), (15, .int .i64 (s.1 : Int))]) (fun s wr => s.1 ≤ d ∧ 1 ≤ List.length s.2.2.2.2.2.1 ∧ List.length s.2.2.2.2.2.1 ≤ 50 ∧ (∀ k, gv s.2.2.2.2.2.1 k < 18446744073709551616) ∧ (s.2.1 = false → Rd w (some ⟨s.2.2.1, s.2.2.2.1, none⟩) (u64V s.2.2.2.2.2.1) ∧ ¬ FF s.2.2.1) ∧ sz (ab s.2.2.2.2.2.2) ≤ 50 * s.1 ∧ climbF fl fp d 0 zs (ab s0) = climbF fl fp (d - s.1) s.1 s.2.2.2.2.2.1 (ab s.2.2.2.2.2.2) ∧ Mem w wr FF [optR s.2.1 (row (.slice (some ⟨s.2.2.1, s.2.2.2.1, none⟩) (List.length s.2.2.2.2.2.1) s.2.2.2.2.1) 23 1 (List.length s.2.2.2.2.2.1) (u64V s.2.2.2.2.2.1)), Jr s.2.2.2.2.2.2]) (fun s => d - s.1) (((0, false, b1, o1, c, zs, s0) : Nat × Bool × Nat × Nat × Nat × List Nat × σ)) ?_ (.cons rfl (.cons rfl (.cons rfl (.cons rfl (.cons rfl (.nil)))))) ?_
  · exact ⟨by dsimp only; omega, h1, hz, hzb, fun _ => ⟨hr, hAF⟩, by dsimp only; omega, rfl, (M0.free (r := emptyR) trivial rfl)⟩
  rintro ⟨l, own, b0, o0, c0, ps, sj⟩ w4 ⟨hld, hp1, hp2, hpb, hx, hsj, hcf, M4⟩
  dsimp only at hld hp1 hp2 hpb hx hsj hcf M4
  refine WC.sub (env' := [(1, .slice (some ⟨b0, o0, none⟩) (List.length ps) c0), (2, lv), (3, pv), (14, .int .i64 (d : Int)), (15, .int .i64 (l : Int))]) (.cons rfl (.cons rfl (.cons rfl (.cons rfl (.cons rfl (.nil)))))) ?_
  refine qD ?_
  refine WL.ex rfl rfl rfl (Ex.lss rfl rfl) ?_
  refine qE ?_
  refine WC.seq ?_
  refine WC.cond_dec rfl (fun hc16 => ?_) (fun hc16 => ?_)
  · skip
    refine WC.skip ?_
    refine WX.next ?_
    refine WC.seq ?_
    refine WC.block ?_
    refine qD ?_
    refine qA ?_
    refine qB ?_
    refine qE ?_
    refine qD ?_
    refine qB ?_
    refine qE ?_
    refine WC.seq ?_
    refine qD ?_
    refine qB ?_
    refine qE ?_
    refine WC.block ?_
    refine WC.loop (σ := Nat × Value × List Nat × σ) (fun s => [(1, .slice (some ⟨b0, o0, none⟩) (List.length ps) c0), (2, lv), (3, pv), (9, .int .i64 (l : Int)), (10, s.2.1), (11, .int .i64 (s.1 : Int)), (14, .int .i64 (d : Int)), (15, .int .i64 (l : Int))]) (fun s wr => s.1 ≤ List.length ps ∧ s.2.2.1.length ≤ s.1 ∧ (0 < s.1 → 0 < s.2.2.1.length) ∧ (∀ j, gv s.2.2.1 j < 18446744073709551616) ∧ sz (ab s.2.2.2) ≤ 50 * l + s.1 ∧ ups ps = s.2.2.1 ++ ups (ps.drop s.1) ∧ lvl fl fp l ps (ab sj) = lvl fl fp l (ps.drop s.1) (ab s.2.2.2) ∧ Mem w wr FF [row s.2.1 23 1 (List.length s.2.2.1) (u64V s.2.2.1), optR own (row (.slice (some ⟨b0, o0, none⟩) (List.length ps) c0) 23 1 (List.length ps) (u64V ps)), Jr s.2.2.2]) (fun s => List.length ps - s.1) (((0, .slice none 0 0, [], sj) : Nat × Value × List Nat × σ)) ?_ (.cons rfl (.cons rfl (.cons rfl (.cons rfl (.cons rfl (.cons rfl (.cons rfl (.cons rfl (.nil))))))))) ?_
    · exact ⟨by dsimp only; omega, by simp, (fun h => by omega), (fun j => by simp [gv]), by dsimp only; omega, rfl, rfl, (M4.free (r := row (.slice none 0 0) 23 1 0 []) (row_nil _ _ _) rfl)⟩
    rintro ⟨k, v, acc, s1⟩ w10 ⟨hk, hak, hak0, hab, hs1, hup, hlv, M10⟩
    dsimp only at hk hak hak0 hab hs1 hup hlv M10
    refine WC.sub (env' := [(1, .slice (some ⟨b0, o0, none⟩) (List.length ps) c0), (2, lv), (3, pv), (9, .int .i64 (l : Int)), (10, v), (11, .int .i64 (k : Int)), (14, .int .i64 (d : Int)), (15, .int .i64 (l : Int))]) (.cons rfl (.cons rfl (.cons rfl (.cons rfl (.cons rfl (.cons rfl (.cons rfl (.cons rfl (.nil))))))))) ?_
    refine WC.seq ?_
    refine qD ?_
    refine qA ?_
    refine qA ?_
    refine WL.ex rfl rfl rfl (Ex.len Tryd.underlying67 rfl) ?_
    refine WL.ex rfl rfl rfl (Ex.lss rfl rfl) ?_
    refine qE ?_
    refine WC.cond_dec rfl (fun hc21 => ?_) (fun hc21 => ?_)
    · have hgk := hpb k
      refine WC.skip ?_
      refine WX.next ?_
      refine WC.seq ?_
      refine WC.block ?_
      refine qD ?_
      refine qA ?_
      refine qA ?_
      refine WL.ex rfl rfl rfl (Ex.ia Tryd.underlying67 sz23 rfl rfl ⟨by omega, by omega⟩) ?_
      refine WL.ex rfl rfl rfl (Ex.load ty23 rfl (u64_at (rdP M10 (i := 1) rfl hx) (k := k) (by omega) (by omega))) ?_
      refine qB ?_
      refine qE ?_
      refine qD ?_
      refine qA ?_
      refine WL.ex rfl rfl rfl (Ex.rem rfl rfl (by omega) (c := ((gv ps k % 2 : Nat) : Int)) (by rw [Int.tmod_eq_emod_of_nonneg (by omega)]; omega)) ?_
      refine WL.ex rfl rfl rfl (Ex.eqI rfl rfl) ?_
      refine qA ?_
      by_cases he : ((gv ps k % 2 : Nat) : Int) = 0
      · rw [decide_eq_true he]
        refine WL.yes rfl rfl rfl rfl ?_
        refine qA ?_
        refine WL.yes rfl rfl rfl rfl ?_
        refine WL.ex rfl rfl rfl (Ex.add rfl rfl (c := ((k + 1 : Nat) : Int)) (wrapN (by omega) (by omega))) ?_
        refine WL.yes rfl rfl rfl rfl ?_
        refine qA ?_
        refine WL.yes rfl rfl rfl rfl ?_
        refine WL.ex rfl rfl rfl (Ex.len Tryd.underlying67 rfl) ?_
        refine WL.yes rfl rfl rfl rfl ?_
        refine WL.ex rfl rfl rfl (Ex.lss rfl rfl) ?_
        refine WL.ex rfl rfl rfl (Ex.pickT rfl rfl) ?_
        refine qA ?_
        by_cases hk2 : ((k + 1 : Nat) : Int) < ((List.length ps : Nat) : Int)
        · rw [decide_eq_true hk2]
          refine WL.yes rfl rfl rfl rfl ?_
          refine qA ?_
          refine WL.yes rfl rfl rfl rfl ?_
          refine qA ?_
          refine WL.yes rfl rfl rfl rfl ?_
          refine WL.ex rfl rfl rfl (Ex.add rfl rfl (c := ((k + 1 : Nat) : Int)) (wrapN (by omega) (by omega))) ?_
          refine WL.yes rfl rfl rfl rfl ?_
          refine WL.ex rfl rfl rfl (Ex.ia Tryd.underlying67 sz23 rfl rfl ⟨by omega, by omega⟩) ?_
          refine WL.yes rfl rfl rfl rfl ?_
          refine WL.ex rfl rfl rfl (Ex.load ty23 rfl (u64_at (rdP M10 (i := 1) rfl hx) (k := k + 1) (by omega) (by omega))) ?_
          refine WL.yes rfl rfl rfl rfl ?_
          refine qA ?_
          refine WL.yes rfl rfl rfl rfl ?_
          refine WL.ex rfl rfl rfl (Ex.add rfl rfl (c := ((gv ps k + 1 : Nat) : Int)) (by rw [show (gv ps k : Int) + 1 = ((gv ps k + 1 : Nat) : Int) by omega]; exact u64w_lt _ (by omega))) ?_
          refine WL.yes rfl rfl rfl rfl ?_
          refine WL.ex rfl rfl rfl (Ex.eqI rfl rfl) ?_
          refine WL.ex rfl rfl rfl (Ex.pickT rfl rfl) ?_
          refine qB ?_
          refine qE ?_
          refine WC.cut (σ := Nat × Bool × σ) (fun s => [(1, .slice (some ⟨b0, o0, none⟩) (List.length ps) c0), (2, lv), (3, pv), (9, .int .i64 (l : Int)), (10, v), (11, .int .i64 (s.1 : Int)), (12, .int .u64 (gv ps k : Int)), (13, .bool s.2.1), (14, .int .i64 (d : Int)), (15, .int .i64 (l : Int))]) (fun s wr => k ≤ s.1 ∧ s.1 < List.length ps ∧ sz (ab s.2.2) ≤ 50 * l + s.1 + 1 ∧ ups (ps.drop k) = gv ps k / 2 :: ups (ps.drop (s.1 + 1)) ∧ lvl fl fp l (ps.drop k) (ab s1) = lvl fl fp l (ps.drop (s.1 + 1)) (fp (ab s.2.2) (gv ps k) s.2.1) ∧ Mem w wr FF [row v 23 1 (List.length acc) (u64V acc), optR own (row (.slice (some ⟨b0, o0, none⟩) (List.length ps) c0) 23 1 (List.length ps) (u64V ps)), Jr s.2.2]) ?_ ?_
          ·
            refine qD ?_
            refine qA ?_
            refine qE ?_
            refine WC.cond_dec rfl (fun h48 => ?_) (fun h48 => ?_)
            · skip
              refine WC.region ?_
              refine qA ?_
              refine WL.ex rfl rfl rfl (Ex.add rfl rfl (c := ((k + 1 : Nat) : Int)) (wrapN (by omega) (by omega))) ?_
              refine qB ?_
              refine WL.nil ?_
              refine WX.join (((k + 1, decide (((gv ps (k + 1) : Nat) : Int) = ((gv ps k + 1 : Nat) : Int)), s1) : Nat × Bool × σ)) ?_ (.cons rfl (.cons rfl (.cons rfl (.cons rfl (.cons rfl (.cons rfl (.cons rfl (.cons rfl (.cons rfl (.cons rfl (.nil)))))))))))
              have hst := step_b fl fp (l := l) (t := ab s1) (by omega : k + 1 < ps.length) (by omega) (by omega)
              rw [decide_eq_true h48]
              exact ⟨by dsimp only; omega, by dsimp only; omega, by dsimp only; omega, hst.1, hst.2, M10⟩
            · skip
              refine qD ?_
              refine qA ?_
              refine qA ?_
              refine qA ?_
              refine WL.ex rfl rfl rfl (Ex.bxor rfl rfl (bxor1 hgk)) ?_
              refine WL.ac rfl rfl rfl (Ac.callv rfl rfl (hl s1 w10 l (gv ps k ^^^ 1) (by omega) (by omega) (xor1_lt hgk) (by have K9 := M10.keep; rw [hFF] at K9; exact K9) (M10.get (i := 2) rfl))) ?_; rintro v49 w49 ⟨s2, b2, rfl, T49, hfl⟩
              have M49 := M10.turned (i := 2) rfl T49
              try dsimp only [List.set] at M49
              have hns : ¬ (gv ps k % 2 = 0 ∧ k + 1 < ps.length ∧ gv ps (k + 1) = gv ps k + 1) := by omega
              refine WL.ex rfl rfl rfl (Ex.not rfl) ?_
              refine qE ?_
              refine WC.cond rfl (fun h56 => ?_) (fun h56 => ?_)
              · have hb2 : b2 = false := by simpa using h56
                subst hb2
                have hendn : climbF fl fp d 0 zs (ab s0) = none := by
                  rw [hcf, show d - l = d - l - 1 + 1 by omega, climbF, hlv, step_n fl fp (by omega) hns hfl]
                  rfl
                refine qD ?_
                refine qB ?_
                refine qE ?_
                refine WC.ret ?_
                refine WX.ret_then (WX.ret_block (WX.ret_then (WX.ret_then (WX.ret_block (WX.ret_then (WX.ret_block (WX.ret_then (WX.ret_then (WX.ret_block (WX.ret_then (?_)))))))))))
                refine WX.ret1 rfl rfl ?_
                have Mf : Mem w w49 FF [Jr s2] := (Mem.sub M49 (.cons _ (.cons _ (.refl _))))
                subst hFF
                exact ⟨s2, false, rfl, Mf.toTurn, hendn⟩
              · have hb2 : b2 = true := by simpa using h56
                subst hb2
                have hz2 := hzl _ _ _ _ hfl
                have hst := step_s fl fp (by omega) hns hfl
                refine WC.skip ?_
                refine WX.join (((k, decide (((gv ps (k + 1) : Nat) : Int) = ((gv ps k + 1 : Nat) : Int)), s2) : Nat × Bool × σ)) ?_ (.cons rfl (.cons rfl (.cons rfl (.cons rfl (.cons rfl (.cons rfl (.cons rfl (.cons rfl (.cons rfl (.cons rfl (.nil)))))))))))
                rw [decide_eq_false h48]
                exact ⟨by dsimp only; omega, by dsimp only; omega, by dsimp only; omega, hst.1, hst.2, M49⟩
          · rintro ⟨k1, bt, s2⟩ w52 ⟨hk1, hk1l, hs2, hu1, hl1, M52⟩
            dsimp only at hk1 hk1l hs2 hu1 hl1 M52
            refine WC.sub (env' := [(1, .slice (some ⟨b0, o0, none⟩) (List.length ps) c0), (2, lv), (3, pv), (9, .int .i64 (l : Int)), (10, v), (11, .int .i64 (k1 : Int)), (12, .int .u64 (gv ps k : Int)), (13, .bool bt), (14, .int .i64 (d : Int)), (15, .int .i64 (l : Int))]) (.cons rfl (.cons rfl (.cons rfl (.cons rfl (.cons rfl (.cons rfl (.cons rfl (.cons rfl (.cons rfl (.cons rfl (.nil))))))))))) ?_
            refine qD ?_
            refine qA ?_
            refine qA ?_
            refine qA ?_
            refine WL.ac rfl rfl rfl (Ac.callv rfl rfl (hp s2 w52 (gv ps k) bt (by have K9 := M52.keep; rw [hFF] at K9; exact K9) (M52.get (i := 2) rfl))) ?_; rintro v56 w56 ⟨s3, T56, hs3⟩
            have M56 := M52.turned (i := 2) rfl T56
            try dsimp only [List.set] at M56
            have hz3 := hzp (ab s2) (gv ps k) bt
            rw [← hs3] at hz3
            have hup2 : ups ps = acc ++ ([gv ps k / 2] ++ ups (ps.drop (k1 + 1))) := by rw [hup, hu1]; rfl
            have hlv2 := hlv.trans hl1
            have habn := gv_snoc_lt hab (show gv ps k / 2 < 18446744073709551616 by omega)
            refine qE ?_
            refine WC.region ?_
            refine qA ?_
            refine qA ?_
            refine WL.ex rfl rfl rfl (Ex.quo rfl rfl (by omega) (c := ((gv ps k / 2 : Nat) : Int)) (by rw [Int.tdiv_eq_ediv_of_nonneg (by omega), show (gv ps k : Int) / 2 = ((gv ps k / 2 : Nat) : Int) by omega]; exact u64w_lt _ (by omega))) ?_
            refine WL.ac rfl rfl rfl (Ac.bs M56 (parts := [(0, .tmp 63)]) (l := u64V [gv ps k / 2]) rfl rfl (LitS.one el67 rfl)) ?_; rintro v60 w60 ⟨gs, rfl, hg60, K60, M60⟩
            refine WL.ac rfl rfl rfl (Ac.app M60 el67 rfl rfl (i := 1) rfl (by simp) (M60.rdw (i := 0) rfl) (u64V_one _) (by omega) (by unfold maxLen; omega)) ?_; rintro v61 w61 ⟨K61, M61⟩
            try dsimp only [List.set] at M61
            rw [← u64V_append, show acc.length + 1 = (acc ++ [gv ps k / 2]).length by simp] at M61
            refine qB ?_
            refine WL.nil ?_
            refine WX.normal_block (WX.next (?_))
            refine WC.region ?_
            refine qA ?_
            refine WL.ex rfl rfl rfl (Ex.add rfl rfl (c := ((k1 + 1 : Nat) : Int)) (wrapN (by omega) (by omega))) ?_
            refine qB ?_
            refine WL.nil ?_
            refine WX.again (((k1 + 1, v61, acc ++ [gv ps k / 2], s3) : Nat × Value × List Nat × σ)) ?_ ?_ (.cons rfl (.cons rfl (.cons rfl (.cons rfl (.cons rfl (.cons rfl (.cons rfl (.cons rfl (.nil)))))))))
            · dsimp only; omega
            · exact ⟨by dsimp only; omega, by simp; omega, (fun _ => by simp), habn, by dsimp only; omega, by dsimp only; rw [List.append_assoc]; exact hup2, by dsimp only; rw [hs3]; exact hlv2, (Mem.sub M61 (.cons _ (.refl _)))⟩
        · rw [decide_eq_false hk2]
          refine WL.no rfl rfl rfl rfl rfl rfl ?_
          refine WL.no rfl rfl rfl rfl rfl rfl ?_
          refine WL.no rfl rfl rfl rfl rfl rfl ?_
          refine WL.no rfl rfl rfl rfl rfl rfl ?_
          refine WL.no rfl rfl rfl rfl rfl rfl ?_
          refine WL.no rfl rfl rfl rfl rfl rfl ?_
          refine WL.no rfl rfl rfl rfl rfl rfl ?_
          refine WL.no rfl rfl rfl rfl rfl rfl ?_
          refine WL.ex rfl rfl rfl (Ex.pickF rfl rfl) ?_
          refine qB ?_
          refine qE ?_
          refine WC.cut (σ := Nat × Bool × σ) (fun s => [(1, .slice (some ⟨b0, o0, none⟩) (List.length ps) c0), (2, lv), (3, pv), (9, .int .i64 (l : Int)), (10, v), (11, .int .i64 (s.1 : Int)), (12, .int .u64 (gv ps k : Int)), (13, .bool s.2.1), (14, .int .i64 (d : Int)), (15, .int .i64 (l : Int))]) (fun s wr => k ≤ s.1 ∧ s.1 < List.length ps ∧ sz (ab s.2.2) ≤ 50 * l + s.1 + 1 ∧ ups (ps.drop k) = gv ps k / 2 :: ups (ps.drop (s.1 + 1)) ∧ lvl fl fp l (ps.drop k) (ab s1) = lvl fl fp l (ps.drop (s.1 + 1)) (fp (ab s.2.2) (gv ps k) s.2.1) ∧ Mem w wr FF [row v 23 1 (List.length acc) (u64V acc), optR own (row (.slice (some ⟨b0, o0, none⟩) (List.length ps) c0) 23 1 (List.length ps) (u64V ps)), Jr s.2.2]) ?_ ?_
          ·
            refine qD ?_
            refine qA ?_
            refine qE ?_
            refine WC.no rfl ?_
            refine qD ?_
            refine qA ?_
            refine qA ?_
            refine qA ?_
            refine WL.ex rfl rfl rfl (Ex.bxor rfl rfl (bxor1 hgk)) ?_
            refine WL.ac rfl rfl rfl (Ac.callv rfl rfl (hl s1 w10 l (gv ps k ^^^ 1) (by omega) (by omega) (xor1_lt hgk) (by have K9 := M10.keep; rw [hFF] at K9; exact K9) (M10.get (i := 2) rfl))) ?_; rintro v73 w73 ⟨s2, b2, rfl, T73, hfl⟩
            have M73 := M10.turned (i := 2) rfl T73
            try dsimp only [List.set] at M73
            have hns : ¬ (gv ps k % 2 = 0 ∧ k + 1 < ps.length ∧ gv ps (k + 1) = gv ps k + 1) := by omega
            refine WL.ex rfl rfl rfl (Ex.not rfl) ?_
            refine qE ?_
            refine WC.cond rfl (fun h56 => ?_) (fun h56 => ?_)
            · have hb2 : b2 = false := by simpa using h56
              subst hb2
              have hendn : climbF fl fp d 0 zs (ab s0) = none := by
                rw [hcf, show d - l = d - l - 1 + 1 by omega, climbF, hlv, step_n fl fp (by omega) hns hfl]
                rfl
              refine qD ?_
              refine qB ?_
              refine qE ?_
              refine WC.ret ?_
              refine WX.ret_then (WX.ret_block (WX.ret_then (WX.ret_then (WX.ret_block (WX.ret_then (WX.ret_block (WX.ret_then (WX.ret_then (WX.ret_block (WX.ret_then (?_)))))))))))
              refine WX.ret1 rfl rfl ?_
              have Mf : Mem w w73 FF [Jr s2] := (Mem.sub M73 (.cons _ (.cons _ (.refl _))))
              subst hFF
              exact ⟨s2, false, rfl, Mf.toTurn, hendn⟩
            · have hb2 : b2 = true := by simpa using h56
              subst hb2
              have hz2 := hzl _ _ _ _ hfl
              have hst := step_s fl fp (by omega) hns hfl
              refine WC.skip ?_
              refine WX.join (((k, false, s2) : Nat × Bool × σ)) ?_ (.cons rfl (.cons rfl (.cons rfl (.cons rfl (.cons rfl (.cons rfl (.cons rfl (.cons rfl (.cons rfl (.cons rfl (.nil)))))))))))
              exact ⟨by dsimp only; omega, by dsimp only; omega, by dsimp only; omega, hst.1, hst.2, M73⟩
          · rintro ⟨k1, bt, s2⟩ w76 ⟨hk1, hk1l, hs2, hu1, hl1, M76⟩
            dsimp only at hk1 hk1l hs2 hu1 hl1 M76
            refine WC.sub (env' := [(1, .slice (some ⟨b0, o0, none⟩) (List.length ps) c0), (2, lv), (3, pv), (9, .int .i64 (l : Int)), (10, v), (11, .int .i64 (k1 : Int)), (12, .int .u64 (gv ps k : Int)), (13, .bool bt), (14, .int .i64 (d : Int)), (15, .int .i64 (l : Int))]) (.cons rfl (.cons rfl (.cons rfl (.cons rfl (.cons rfl (.cons rfl (.cons rfl (.cons rfl (.cons rfl (.cons rfl (.nil))))))))))) ?_
            refine qD ?_
            refine qA ?_
            refine qA ?_
            refine qA ?_
            refine WL.ac rfl rfl rfl (Ac.callv rfl rfl (hp s2 w76 (gv ps k) bt (by have K9 := M76.keep; rw [hFF] at K9; exact K9) (M76.get (i := 2) rfl))) ?_; rintro v80 w80 ⟨s3, T80, hs3⟩
            have M80 := M76.turned (i := 2) rfl T80
            try dsimp only [List.set] at M80
            have hz3 := hzp (ab s2) (gv ps k) bt
            rw [← hs3] at hz3
            have hup2 : ups ps = acc ++ ([gv ps k / 2] ++ ups (ps.drop (k1 + 1))) := by rw [hup, hu1]; rfl
            have hlv2 := hlv.trans hl1
            have habn := gv_snoc_lt hab (show gv ps k / 2 < 18446744073709551616 by omega)
            refine qE ?_
            refine WC.region ?_
            refine qA ?_
            refine qA ?_
            refine WL.ex rfl rfl rfl (Ex.quo rfl rfl (by omega) (c := ((gv ps k / 2 : Nat) : Int)) (by rw [Int.tdiv_eq_ediv_of_nonneg (by omega), show (gv ps k : Int) / 2 = ((gv ps k / 2 : Nat) : Int) by omega]; exact u64w_lt _ (by omega))) ?_
            refine WL.ac rfl rfl rfl (Ac.bs M80 (parts := [(0, .tmp 63)]) (l := u64V [gv ps k / 2]) rfl rfl (LitS.one el67 rfl)) ?_; rintro v84 w84 ⟨gs, rfl, hg84, K84, M84⟩
            refine WL.ac rfl rfl rfl (Ac.app M84 el67 rfl rfl (i := 1) rfl (by simp) (M84.rdw (i := 0) rfl) (u64V_one _) (by omega) (by unfold maxLen; omega)) ?_; rintro v85 w85 ⟨K85, M85⟩
            try dsimp only [List.set] at M85
            rw [← u64V_append, show acc.length + 1 = (acc ++ [gv ps k / 2]).length by simp] at M85
            refine qB ?_
            refine WL.nil ?_
            refine WX.normal_block (WX.next (?_))
            refine WC.region ?_
            refine qA ?_
            refine WL.ex rfl rfl rfl (Ex.add rfl rfl (c := ((k1 + 1 : Nat) : Int)) (wrapN (by omega) (by omega))) ?_
            refine qB ?_
            refine WL.nil ?_
            refine WX.again (((k1 + 1, v85, acc ++ [gv ps k / 2], s3) : Nat × Value × List Nat × σ)) ?_ ?_ (.cons rfl (.cons rfl (.cons rfl (.cons rfl (.cons rfl (.cons rfl (.cons rfl (.cons rfl (.nil)))))))))
            · dsimp only; omega
            · exact ⟨by dsimp only; omega, by simp; omega, (fun _ => by simp), habn, by dsimp only; omega, by dsimp only; rw [List.append_assoc]; exact hup2, by dsimp only; rw [hs3]; exact hlv2, (Mem.sub M85 (.cons _ (.refl _)))⟩
      · rw [decide_eq_false he]
        refine WL.no rfl rfl rfl rfl rfl rfl ?_
        refine WL.no rfl rfl rfl rfl rfl rfl ?_
        refine WL.no rfl rfl rfl rfl rfl rfl ?_
        refine WL.no rfl rfl rfl rfl rfl rfl ?_
        refine WL.no rfl rfl rfl rfl rfl rfl ?_
        refine WL.ex rfl rfl rfl (Ex.pickF rfl rfl) ?_
        refine qA ?_
        refine WL.no rfl rfl rfl rfl rfl rfl ?_
        refine WL.no rfl rfl rfl rfl rfl rfl ?_
        refine WL.no rfl rfl rfl rfl rfl rfl ?_
        refine WL.no rfl rfl rfl rfl rfl rfl ?_
        refine WL.no rfl rfl rfl rfl rfl rfl ?_
        refine WL.no rfl rfl rfl rfl rfl rfl ?_
        refine WL.no rfl rfl rfl rfl rfl rfl ?_
        refine WL.no rfl rfl rfl rfl rfl rfl ?_
        refine WL.ex rfl rfl rfl (Ex.pickF rfl rfl) ?_
        refine qB ?_
        refine qE ?_
        refine WC.cut (σ := Nat × Bool × σ) (fun s => [(1, .slice (some ⟨b0, o0, none⟩) (List.length ps) c0), (2, lv), (3, pv), (9, .int .i64 (l : Int)), (10, v), (11, .int .i64 (s.1 : Int)), (12, .int .u64 (gv ps k : Int)), (13, .bool s.2.1), (14, .int .i64 (d : Int)), (15, .int .i64 (l : Int))]) (fun s wr => k ≤ s.1 ∧ s.1 < List.length ps ∧ sz (ab s.2.2) ≤ 50 * l + s.1 + 1 ∧ ups (ps.drop k) = gv ps k / 2 :: ups (ps.drop (s.1 + 1)) ∧ lvl fl fp l (ps.drop k) (ab s1) = lvl fl fp l (ps.drop (s.1 + 1)) (fp (ab s.2.2) (gv ps k) s.2.1) ∧ Mem w wr FF [row v 23 1 (List.length acc) (u64V acc), optR own (row (.slice (some ⟨b0, o0, none⟩) (List.length ps) c0) 23 1 (List.length ps) (u64V ps)), Jr s.2.2]) ?_ ?_
        ·
          refine qD ?_
          refine qA ?_
          refine qE ?_
          refine WC.no rfl ?_
          refine qD ?_
          refine qA ?_
          refine qA ?_
          refine qA ?_
          refine WL.ex rfl rfl rfl (Ex.bxor rfl rfl (bxor1 hgk)) ?_
          refine WL.ac rfl rfl rfl (Ac.callv rfl rfl (hl s1 w10 l (gv ps k ^^^ 1) (by omega) (by omega) (xor1_lt hgk) (by have K9 := M10.keep; rw [hFF] at K9; exact K9) (M10.get (i := 2) rfl))) ?_; rintro v99 w99 ⟨s2, b2, rfl, T99, hfl⟩
          have M99 := M10.turned (i := 2) rfl T99
          try dsimp only [List.set] at M99
          have hns : ¬ (gv ps k % 2 = 0 ∧ k + 1 < ps.length ∧ gv ps (k + 1) = gv ps k + 1) := by omega
          refine WL.ex rfl rfl rfl (Ex.not rfl) ?_
          refine qE ?_
          refine WC.cond rfl (fun h56 => ?_) (fun h56 => ?_)
          · have hb2 : b2 = false := by simpa using h56
            subst hb2
            have hendn : climbF fl fp d 0 zs (ab s0) = none := by
              rw [hcf, show d - l = d - l - 1 + 1 by omega, climbF, hlv, step_n fl fp (by omega) hns hfl]
              rfl
            refine qD ?_
            refine qB ?_
            refine qE ?_
            refine WC.ret ?_
            refine WX.ret_then (WX.ret_block (WX.ret_then (WX.ret_then (WX.ret_block (WX.ret_then (WX.ret_block (WX.ret_then (WX.ret_then (WX.ret_block (WX.ret_then (?_)))))))))))
            refine WX.ret1 rfl rfl ?_
            have Mf : Mem w w99 FF [Jr s2] := (Mem.sub M99 (.cons _ (.cons _ (.refl _))))
            subst hFF
            exact ⟨s2, false, rfl, Mf.toTurn, hendn⟩
          · have hb2 : b2 = true := by simpa using h56
            subst hb2
            have hz2 := hzl _ _ _ _ hfl
            have hst := step_s fl fp (by omega) hns hfl
            refine WC.skip ?_
            refine WX.join (((k, false, s2) : Nat × Bool × σ)) ?_ (.cons rfl (.cons rfl (.cons rfl (.cons rfl (.cons rfl (.cons rfl (.cons rfl (.cons rfl (.cons rfl (.cons rfl (.nil)))))))))))
            exact ⟨by dsimp only; omega, by dsimp only; omega, by dsimp only; omega, hst.1, hst.2, M99⟩
        · rintro ⟨k1, bt, s2⟩ w102 ⟨hk1, hk1l, hs2, hu1, hl1, M102⟩
          dsimp only at hk1 hk1l hs2 hu1 hl1 M102
          refine WC.sub (env' := [(1, .slice (some ⟨b0, o0, none⟩) (List.length ps) c0), (2, lv), (3, pv), (9, .int .i64 (l : Int)), (10, v), (11, .int .i64 (k1 : Int)), (12, .int .u64 (gv ps k : Int)), (13, .bool bt), (14, .int .i64 (d : Int)), (15, .int .i64 (l : Int))]) (.cons rfl (.cons rfl (.cons rfl (.cons rfl (.cons rfl (.cons rfl (.cons rfl (.cons rfl (.cons rfl (.cons rfl (.nil))))))))))) ?_
          refine qD ?_
          refine qA ?_
          refine qA ?_
          refine qA ?_
          refine WL.ac rfl rfl rfl (Ac.callv rfl rfl (hp s2 w102 (gv ps k) bt (by have K9 := M102.keep; rw [hFF] at K9; exact K9) (M102.get (i := 2) rfl))) ?_; rintro v106 w106 ⟨s3, T106, hs3⟩
          have M106 := M102.turned (i := 2) rfl T106
          try dsimp only [List.set] at M106
          have hz3 := hzp (ab s2) (gv ps k) bt
          rw [← hs3] at hz3
          have hup2 : ups ps = acc ++ ([gv ps k / 2] ++ ups (ps.drop (k1 + 1))) := by rw [hup, hu1]; rfl
          have hlv2 := hlv.trans hl1
          have habn := gv_snoc_lt hab (show gv ps k / 2 < 18446744073709551616 by omega)
          refine qE ?_
          refine WC.region ?_
          refine qA ?_
          refine qA ?_
          refine WL.ex rfl rfl rfl (Ex.quo rfl rfl (by omega) (c := ((gv ps k / 2 : Nat) : Int)) (by rw [Int.tdiv_eq_ediv_of_nonneg (by omega), show (gv ps k : Int) / 2 = ((gv ps k / 2 : Nat) : Int) by omega]; exact u64w_lt _ (by omega))) ?_
          refine WL.ac rfl rfl rfl (Ac.bs M106 (parts := [(0, .tmp 63)]) (l := u64V [gv ps k / 2]) rfl rfl (LitS.one el67 rfl)) ?_; rintro v110 w110 ⟨gs, rfl, hg110, K110, M110⟩
          refine WL.ac rfl rfl rfl (Ac.app M110 el67 rfl rfl (i := 1) rfl (by simp) (M110.rdw (i := 0) rfl) (u64V_one _) (by omega) (by unfold maxLen; omega)) ?_; rintro v111 w111 ⟨K111, M111⟩
          try dsimp only [List.set] at M111
          rw [← u64V_append, show acc.length + 1 = (acc ++ [gv ps k / 2]).length by simp] at M111
          refine qB ?_
          refine WL.nil ?_
          refine WX.normal_block (WX.next (?_))
          refine WC.region ?_
          refine qA ?_
          refine WL.ex rfl rfl rfl (Ex.add rfl rfl (c := ((k1 + 1 : Nat) : Int)) (wrapN (by omega) (by omega))) ?_
          refine qB ?_
          refine WL.nil ?_
          refine WX.again (((k1 + 1, v111, acc ++ [gv ps k / 2], s3) : Nat × Value × List Nat × σ)) ?_ ?_ (.cons rfl (.cons rfl (.cons rfl (.cons rfl (.cons rfl (.cons rfl (.cons rfl (.cons rfl (.nil)))))))))
          · dsimp only; omega
          · exact ⟨by dsimp only; omega, by simp; omega, (fun _ => by simp), habn, by dsimp only; omega, by dsimp only; rw [List.append_assoc]; exact hup2, by dsimp only; rw [hs3]; exact hlv2, (Mem.sub M111 (.cons _ (.refl _)))⟩
    · obtain rfl : k = ps.length := by omega
      rw [List.drop_length] at hup hlv
      have hul := ups_len ps
      rw [show ups [] = [] from rfl, List.append_nil] at hup
      have hcf2 : climbF fl fp d 0 zs (ab s0) = climbF fl fp (d - (l + 1)) (l + 1) acc (ab s1) := by
        rw [hcf, show d - l = d - (l + 1) + 1 by omega, climbF, hlv, hup]
        rfl
      obtain ⟨A2, c2, rfl⟩ := own_slice (M10.get (i := 0) rfl)
      obtain ⟨g2, rfl⟩ := own_some (M10.get (i := 0) rfl) (by omega)
      try rw [hup] at hul
      refine WC.exit ?_
      refine WX.exit_then (WX.exit_then (WX.exit_block (WX.next (?_))))
      refine WC.region ?_
      refine qA ?_
      refine qB ?_
      refine WL.nil ?_
      refine WX.normal_block (WX.next (?_))
      refine WC.region ?_
      refine WL.ex rfl rfl rfl (Ex.add rfl rfl (c := ((l + 1 : Nat) : Int)) (wrapN (by omega) (by omega))) ?_
      refine qA ?_
      refine WL.nil ?_
      refine WX.again (((l + 1, true, g2, 0, c2, acc, s1) : Nat × Bool × Nat × Nat × Nat × List Nat × σ)) ?_ ?_ (.cons rfl (.cons rfl (.cons rfl (.cons rfl (.cons rfl (.nil))))))
      · dsimp only; omega
      · exact ⟨by dsimp only; omega, by dsimp only; omega, by dsimp only; omega, hab, (fun h => by cases h), by dsimp only; omega, hcf2, (Mem.sub M10 (.cons_cons _ (.cons _ (.refl _))))⟩
  · have hend : climbF fl fp d 0 zs (ab s0) = some (ab sj) := by
      rw [hcf, show d - l = 0 by omega]
      rfl
    refine WC.exit ?_
    refine WX.exit_then (WX.exit_then (WX.exit_block (WX.next (?_))))
    refine qD ?_
    refine qB ?_
    refine qE ?_
    refine WC.ret ?_
    refine WX.ret1 rfl rfl ?_
    have Mf : Mem w w4 FF [Jr sj] := (Mem.sub M4 (.cons _ (.refl _)))
    subst hFF
    exact ⟨sj, true, rfl, Mf.toTurn, hend⟩

end Go.Proofs.YtchmjpdkonfifaaDoor

set_option linter.unusedVariables false
set_option linter.unusedSimpArgs false
namespace Go.Proofs.YtchmjpdkonfifaaDoor
open Go.Sx Go.RowKit
attribute [local irreducible] Ac Ex WL WC WX WP Gives

/-- How many single nodes a level asks for. -/
def cntL : List Nat → Nat
  | [] => 0
  | [_] => 1
  | i :: k :: r => if i % 2 = 0 ∧ k = i + 1 then cntL r else cntL (k :: r) + 1
def cnt : Nat → List Nat → Nat
  | 0, _ => 0
  | d + 1, zs => cntL zs + cnt d (ups zs)
theorem cntL_le : ∀ zs : List Nat, cntL zs ≤ zs.length
  | [] => Nat.le_refl _
  | [_] => Nat.le_refl _
  | i :: k :: r => by
    rw [cntL]
    split
    · have := cntL_le r; simp; omega
    · have := cntL_le (k :: r); simp at this ⊢; omega
theorem cnt_le : ∀ (d : Nat) (zs : List Nat), cnt d zs ≤ d * zs.length
  | 0, _ => Nat.zero_le _
  | d + 1, zs => by
    have h1 := cntL_le zs
    have h2 := cnt_le d (ups zs)
    have h3 := (ups_len zs).1
    have h4 : d * (ups zs).length ≤ d * zs.length := Nat.mul_le_mul_left _ h3
    rw [cnt, Nat.add_mul, Nat.one_mul]
    omega
abbrev flC : Int → Nat → Nat → Option Int := fun t _ _ => some (IntKind.i64.wrap (t + 1))
abbrev fpC : Int → Nat → Bool → Int := fun t _ _ => t
theorem lvl_cnt (l : Nat) : ∀ (zs : List Nat) (t : Nat), t + zs.length ≤ 1000000 → lvl flC fpC l zs (t : Int) = some ((t + cntL zs : Nat) : Int)
  | [], t, _ => rfl
  | [i], t, h => by
    simp at h
    show some (IntKind.i64.wrap ((t : Int) + 1)) = _
    rw [show (t : Int) + 1 = ((t + 1 : Nat) : Int) by omega, i64w _ (by omega) (by omega)]
    rfl
  | i :: k :: r, t, h => by
    simp at h
    rw [lvl, cntL]
    split
    · exact lvl_cnt l r t (by omega)
    · show lvl flC fpC l (k :: r) (IntKind.i64.wrap ((t : Int) + 1)) = _
      rw [show (t : Int) + 1 = ((t + 1 : Nat) : Int) by omega, i64w _ (by omega) (by omega), lvl_cnt l (k :: r) (t + 1) (by simp; omega)]
      congr 2
      omega
theorem climb_cnt : ∀ (d l : Nat) (zs : List Nat) (t : Nat), t + d * zs.length + zs.length ≤ 1000000 → climbF flC fpC d l zs (t : Int) = some ((t + cnt d zs : Nat) : Int)
  | 0, _, _, _, _ => rfl
  | d + 1, l, zs, t, h => by
    have h1 := cntL_le zs
    have h3 := (ups_len zs).1
    have h4 : d * (ups zs).length ≤ d * zs.length := Nat.mul_le_mul_left _ h3
    rw [Nat.add_mul, Nat.one_mul] at h
    rw [climbF, lvl_cnt l zs t (by omega), cnt]
    show climbF flC fpC d (l + 1) (ups zs) ((t + cntL zs : Nat) : Int) = _
    rw [climb_cnt d (l + 1) (ups zs) (t + cntL zs) (by omega), Nat.add_assoc]
theorem ub_rdv {w : World} {g : Nat} {xs : List Nat} {tl : List Value} {e : TypeId} (h : (ub g xs tl e).sat w) : Rd w (some ⟨g, 0, none⟩) (u64V xs) := Rd.of_cells fun j u hj => by
  have hk : j < xs.length := by have := (List.getElem?_eq_some_iff.1 hj).1; simpa using this
  rw [u64V_get hk] at hj
  obtain rfl := Option.some.inj hj
  exact ub_rd h (by omega) hk
theorem rise_lt {xs zs : List Nat} {B : Nat} (h : Rise xs zs) (hx : ∀ k, gv xs k < B) (h0 : 0 < B) : ∀ k, gv zs k < B := fun k => by
  by_cases hk : k < zs.length
  · obtain ⟨j, _, e⟩ := mem_gv.1 ((h.mem _).1 (gv_mem hk))
    rw [← e]; exact hx j
  · unfold gv
    rw [List.getD_eq_getElem?_getD, List.getElem?_eq_none (by omega)]
    exact h0

/- sponsion/multi.Needs$1 -/
theorem need1_ok (w : World) (gn : Nat) (z : Int) (l i : Int) (hR : (blk gn [.int .i64 (z)] 3).sat w) : Gives Tryd.prog 67 #[.int .i64 l, .int .u64 i, .pointer (some ⟨gn, 0, none⟩)] w fun u w1 => u = .bool true ∧ Turn w w1 (blk gn [.int .i64 (z)] 3) (blk gn [.int .i64 (IntKind.i64.wrap (z + 1))] 3) := by
  obtain ⟨FF, hFF⟩ : ∃ FF : Nat → Prop, FF = (fun b => b ∈ (blk gn [.int .i64 (z)] 3).fp) := ⟨_, rfl⟩
  have M0 : Mem w w FF [blk gn [.int .i64 (z)] 3] := by rw [hFF]; exact Mem.begin hR
  refine Gives.enter (n := 8) Tryd.func67 rfl Tryd.ntmps67 rfl (env := [(0, .int .i64 l), (1, .int .u64 i), (2, .pointer (some ⟨gn, 0, none⟩))]) rfl ?_
  refine qD ?_
  refine qB ?_
  refine qE ?_
  refine qD ?_
  refine WL.ex rfl rfl rfl (Ex.load ty3 rfl (M0.cell (i := 0) rfl rfl)) ?_
  refine WL.ex rfl rfl rfl (Ex.add rfl rfl rfl) ?_
  refine WL.ac0 rfl rfl (Ac.st M0 ty3 rfl rfl rfl (i := 0) rfl (by simp)) ?_; rintro v4 w4 ⟨K4, M4⟩
  try dsimp only [List.set] at M4
  refine qE ?_
  refine qD ?_
  refine qB ?_
  refine qE ?_
  refine WC.ret ?_
  refine WX.ret1 rfl rfl ?_
  subst hFF
  exact ⟨rfl, M4.toTurn⟩

/- sponsion/multi.Needs$2 -/
theorem need2_ok (w : World) (i : Int) (b : Bool) : Gives Tryd.prog 68 #[.int .u64 i, .bool b] w fun u w1 => Keep nof w w1 := by
  have M0 := Mem.start w nof
  refine Gives.enter (n := 4) Tryd.func68 rfl Tryd.ntmps68 rfl (env := [(0, .int .u64 i), (1, .bool b)]) rfl ?_
  refine WC.skip ?_
  refine WX.end0 rfl ?_
  exact M0.keep

/- sponsion/multi.Needs -/
theorem needs_ok (w : World) (A : Option Addr) (c : Nat) (d : Int) (xs : List Nat) (hr : Rd w A (u64V xs)) (hx : ∀ k, gv xs k < 18446744073709551616) (hn50 : xs.length < 50) :
    Gives Tryd.prog 33 #[.int .i64 d, .slice A xs.length c] w fun u w1 => ∃ n : Nat, ∃ e : Int, u = .tuple #[.int .i64 (n : Int), .int .i64 e] ∧ Keep nof w w1 ∧
      (if d < 0 ∨ 32 < d then n = 0 ∧ e = 1 else if xs.length = 0 then n = 0 ∧ e = 3 else if (xs.any fun x => decide (2 ^ d.toNat ≤ x)) = true then n = 0 ∧ e = 10 else e = 0 ∧ ∃ zs, Rise xs zs ∧ n = cnt d.toNat zs) := by
  have M0 := Mem.start w nof
  refine Gives.enter (n := 30) Tryd.func33 rfl Tryd.ntmps33 rfl (env := [(0, .int .i64 d), (1, .slice A xs.length c)]) rfl ?_
  refine qD ?_
  refine qB ?_
  refine qB ?_
  refine qE ?_
  refine WC.seq ?_
  refine WC.block ?_
  refine qD ?_
  refine qA ?_
  refine WL.ex rfl rfl rfl (Ex.lss rfl rfl) ?_
  refine qA ?_
  by_cases hd0 : d < 0
  · rw [decide_eq_true hd0]
    have hw : d < 0 ∨ 32 < d := .inl hd0
    refine WL.no rfl rfl rfl rfl rfl rfl ?_
    refine WL.no rfl rfl rfl rfl rfl rfl ?_
    refine WL.ex rfl rfl rfl (Ex.pickT rfl rfl) ?_
    refine qB ?_
    refine qE ?_
    refine WC.yes rfl ?_
    refine qD ?_
    refine qB ?_
    refine qB ?_
    refine qE ?_
    refine WC.ret ?_
    refine WX.ret_block (WX.ret_then (?_))
    refine WX.ret2 rfl rfl rfl ?_
    first | exact ⟨0, 1, rfl, M0.keep, by rw [if_pos hw]; exact ⟨rfl, rfl⟩⟩ | exact ⟨0, 3, rfl, M0.keep, by rw [if_neg hw, if_pos hl0]; exact ⟨rfl, rfl⟩⟩ | exact ⟨0, 10, rfl, M0.keep, by rw [if_neg hw, if_neg hl0, if_pos (by rw [Int.toNat_natCast]; exact h19)]; exact ⟨rfl, rfl⟩⟩ | exact ⟨_, 0, rfl, M0.keep, by rw [if_neg hw, if_neg hl0, if_neg (by rw [Int.toNat_natCast, h19]; decide)]; exact ⟨rfl, zs, hri, by rw [Int.toNat_natCast]⟩⟩
  · rw [decide_eq_false hd0]
    refine WL.yes rfl rfl rfl rfl ?_
    refine qA ?_
    refine WL.yes rfl rfl rfl rfl ?_
    refine WL.ex rfl rfl rfl (Ex.gtr rfl rfl) ?_
    refine WL.ex rfl rfl rfl (Ex.pickF rfl rfl) ?_
    refine qB ?_
    refine qE ?_
    refine WC.cond_dec rfl (fun h8 => ?_) (fun h8 => ?_)
    · have hw : d < 0 ∨ 32 < d := by omega
      refine qD ?_
      refine qB ?_
      refine qB ?_
      refine qE ?_
      refine WC.ret ?_
      refine WX.ret_block (WX.ret_then (?_))
      refine WX.ret2 rfl rfl rfl ?_
      first | exact ⟨0, 1, rfl, M0.keep, by rw [if_pos hw]; exact ⟨rfl, rfl⟩⟩ | exact ⟨0, 3, rfl, M0.keep, by rw [if_neg hw, if_pos hl0]; exact ⟨rfl, rfl⟩⟩ | exact ⟨0, 10, rfl, M0.keep, by rw [if_neg hw, if_neg hl0, if_pos (by rw [Int.toNat_natCast]; exact h19)]; exact ⟨rfl, rfl⟩⟩ | exact ⟨_, 0, rfl, M0.keep, by rw [if_neg hw, if_neg hl0, if_neg (by rw [Int.toNat_natCast, h19]; decide)]; exact ⟨rfl, zs, hri, by rw [Int.toNat_natCast]⟩⟩
    · have hw : ¬ (d < 0 ∨ 32 < d) := by omega
      obtain ⟨dn, rfl⟩ : ∃ dn : Nat, d = (dn : Int) := ⟨d.toNat, by omega⟩
      refine qD ?_
      refine qA ?_
      refine WL.ex rfl rfl rfl (Ex.len Tryd.underlying67 rfl) ?_
      refine WL.ex rfl rfl rfl (Ex.eqI rfl rfl) ?_
      refine qB ?_
      refine qE ?_
      refine WC.cond_dec rfl (fun h15 => ?_) (fun h15 => ?_)
      · have hl0 : xs.length = 0 := by omega
        refine qD ?_
        refine qB ?_
        refine qB ?_
        refine qE ?_
        refine WC.ret ?_
        refine WX.ret_block (WX.ret_then (?_))
        refine WX.ret2 rfl rfl rfl ?_
        first | exact ⟨0, 1, rfl, M0.keep, by rw [if_pos hw]; exact ⟨rfl, rfl⟩⟩ | exact ⟨0, 3, rfl, M0.keep, by rw [if_neg hw, if_pos hl0]; exact ⟨rfl, rfl⟩⟩ | exact ⟨0, 10, rfl, M0.keep, by rw [if_neg hw, if_neg hl0, if_pos (by rw [Int.toNat_natCast]; exact h19)]; exact ⟨rfl, rfl⟩⟩ | exact ⟨_, 0, rfl, M0.keep, by rw [if_neg hw, if_neg hl0, if_neg (by rw [Int.toNat_natCast, h19]; decide)]; exact ⟨rfl, zs, hri, by rw [Int.toNat_natCast]⟩⟩
      · have hl0 : ¬ xs.length = 0 := by omega
        refine qD ?_
        refine qA ?_
        refine qA ?_
        refine WL.ac rfl rfl rfl (Ac.call rfl Tryd.func66 nm66 rfl (bey_ok w A c dn xs (M0.rd hr) (by omega) (by omega))) ?_; rintro v24 w24 ⟨rfl, K24⟩
        have M24 := M0.step K24
        refine qB ?_
        refine qE ?_
        refine WC.cond rfl (fun h19 => ?_) (fun h19 => ?_)
        · skip
          refine qD ?_
          refine qB ?_
          refine qB ?_
          refine qE ?_
          refine WC.ret ?_
          refine WX.ret_block (WX.ret_then (?_))
          refine WX.ret2 rfl rfl rfl ?_
          first | exact ⟨0, 1, rfl, M24.keep, by rw [if_pos hw]; exact ⟨rfl, rfl⟩⟩ | exact ⟨0, 3, rfl, M24.keep, by rw [if_neg hw, if_pos hl0]; exact ⟨rfl, rfl⟩⟩ | exact ⟨0, 10, rfl, M24.keep, by rw [if_neg hw, if_neg hl0, if_pos (by rw [Int.toNat_natCast]; exact h19)]; exact ⟨rfl, rfl⟩⟩ | exact ⟨_, 0, rfl, M24.keep, by rw [if_neg hw, if_neg hl0, if_neg (by rw [Int.toNat_natCast, h19]; decide)]; exact ⟨rfl, zs, hri, by rw [Int.toNat_natCast]⟩⟩
        · skip
          refine WC.skip ?_
          refine WX.normal_block (WX.next (?_))
          refine qD ?_
          refine WL.ac rfl rfl rfl (Ac.alloc M24 al3) ?_; rintro v28 w28 ⟨gn, rfl, hg28, K28, M28⟩
          refine WL.ac0 rfl rfl (Ac.st M28 ty3 rfl rfl rfl (i := 0) rfl (by simp)) ?_; rintro v29 w29 ⟨K29, M29⟩
          try dsimp only [List.set] at M29
          refine qE ?_
          refine qD ?_
          refine WL.ex rfl rfl rfl (Ex.mkf (f' := []) (c' := [.pointer (some ⟨gn, 0, none⟩)]) rfl rfl) ?_
          refine qB ?_
          refine qE ?_
          refine qD ?_
          refine qA ?_
          refine qA ?_
          refine WL.ac rfl rfl rfl (Ac.call rfl Tryd.func61 nm61 rfl (sorted_ok w29 A c xs (M29.rd hr) (by omega) hn50)) ?_; rintro v34 w34 ⟨g, zs, tl, c2, rfl, hri, hcl, hcm, N34⟩
          have M34 := M29.new N34
          have hzl := hri.le
          have hzp := hri.pos
          refine qA ?_
          refine WL.ac rfl rfl rfl (Ac.call rfl Tryd.func63 nm63 rfl ((mclimb_ok flC fpC (fun z : Int => blk gn [.int .i64 (z)] 3) id w34 (some ⟨g, 0, none⟩) c2 dn zs (.func (.func 67) #[] #[.pointer (some ⟨gn, 0, none⟩)]) (.func (.func 68) #[] #[]) 0 (M34.get (i := 1) rfl) (ub_rdv (M34.get (i := 0) rfl)) (fun b hb => by cases hb; exact M34.apart (i := 0) (j := 1) rfl rfl (by decide) g (by simp [ub, blk])) (by omega) (by omega) (by omega) (rise_lt hri hx (by decide)) (fun _ => 0) rfl (fun _ _ _ _ _ => Nat.zero_le _) (fun _ _ _ => Nat.le_refl _) (fun z W l i _ _ _ _ h => ⟨_, _, [], [.pointer (some ⟨gn, 0, none⟩)], rfl, Tryd.func67, by kernel_rfl, rfl, (need1_ok W gn z l i h).mono fun u W' hh => ⟨_, true, hh.1, hh.2, rfl⟩⟩) (fun z W i b _ h => ⟨_, _, [], [], rfl, Tryd.func68, by kernel_rfl, rfl, (need2_ok W i b).mono fun u W' hh => ⟨z, ⟨hh.any, Res.keep0 h hh, fun b hb => .inl hb⟩, rfl⟩⟩)))) ?_; rintro v36 w36 ⟨z1, b1, rfl, T36, hcf⟩
          have M36 := M34.turned (i := 1) rfl T36
          try dsimp only [List.set] at M36
          have hz1 : z1 = ((cnt dn zs : Nat) : Int) := by
            have h5 := climb_cnt dn 0 zs 0 (by have h6 : dn * zs.length ≤ 32 * 50 := Nat.mul_le_mul (by omega) (by omega)
                                               omega)
            rw [Nat.zero_add] at h5
            rw [show ((0 : Nat) : Int) = (0 : Int) from rfl] at h5
            have h7 := hcf
            rw [show id (0 : Int) = 0 from rfl, h5] at h7
            cases b1 with
            | true => exact (Option.some.inj h7).symm
            | false => cases h7
          subst hz1
          refine qE ?_
          refine qD ?_
          refine WL.ex rfl rfl rfl (Ex.load ty3 rfl (M36.cell (i := 1) rfl rfl)) ?_
          refine qB ?_
          refine qB ?_
          refine qE ?_
          refine WC.ret ?_
          refine WX.ret2 rfl rfl rfl ?_
          first | exact ⟨0, 1, rfl, M36.keep, by rw [if_pos hw]; exact ⟨rfl, rfl⟩⟩ | exact ⟨0, 3, rfl, M36.keep, by rw [if_neg hw, if_pos hl0]; exact ⟨rfl, rfl⟩⟩ | exact ⟨0, 10, rfl, M36.keep, by rw [if_neg hw, if_neg hl0, if_pos (by rw [Int.toNat_natCast]; exact h19)]; exact ⟨rfl, rfl⟩⟩ | exact ⟨_, 0, rfl, M36.keep, by rw [if_neg hw, if_neg hl0, if_neg (by rw [Int.toNat_natCast, h19]; decide)]; exact ⟨rfl, zs, hri, by rw [Int.toNat_natCast]⟩⟩

end Go.Proofs.YtchmjpdkonfifaaDoor
