/- Walks, written by gen.py off the translation's own print: each says what the Go function comes to. -/
import Derived.Test.YtnjbhhedaloghaaDoorPc
set_option linter.unusedVariables false
set_option linter.unusedSimpArgs false
namespace Go.Proofs.YtnjbhhedaloghaaDoor
open Go.Sx Go.RowKit
attribute [local irreducible] Ac Ex WL WC WX WP Gives

/-- The example's call. -/
def cP : Cl := { cl0 with kind := 4, from_ := 1, nonce := 2 }
theorem cP_ok : ClOk cP := { cl0_ok with kind := by decide, from_ := by decide, nonce := by decide }
theorem cP_s4 : sgL[4]? = some [] := rfl
theorem bld3 {pl : Nat → Option (Nat × Nat)} {a b c x y z : Value} {R : List Value} (h0 : pl 0 = some (0, 1)) (h1 : pl 1 = some (1, 1)) (h2 : pl 2 = some (2, 1)) (hx : x.cells = #[x]) (hy : y.cells = #[y]) (hz : z.cells = #[z]) :
    okS pl (a :: b :: c :: R) [(0, x), (1, y), (2, z)] [[x], [y], [z]] (x :: y :: z :: R) :=
  ⟨0, 1, h0, hx, rfl, by simp, 1, 1, h1, hy, rfl, by simp [splice], 2, 1, h2, hz, rfl, by simp [splice], by simp [okS, splice]⟩
theorem bdC : Bld Tryd.prog 43 [(0, 1), (1, 1), (2, 1), (3, 1), (4, 1), (5, 1), (6, 4), (10, 7), (17, 7), (24, 1), (25, 1024)] (clC cl0) := ⟨by kernel_rfl, .inl ⟨_, Tryd.underlying43, by kernel_rfl⟩⟩
theorem bldC {k f n : Nat} : okS (fun i => ([(0, 1), (1, 1), (2, 1), (3, 1), (4, 1), (5, 1), (6, 4), (10, 7), (17, 7), (24, 1), (25, 1024)] : List (Nat × Nat))[i]?) (clC cl0) [(0, .int .u8 (k : Int)), (1, .int .u8 (f : Int)), (2, .int .u64 (n : Int))] [[.int .u8 (k : Int)], [.int .u8 (f : Int)], [.int .u64 (n : Int)]] (clC { cl0 with kind := k, from_ := f, nonce := n }) :=
  bld3 (R := (clC cl0).drop 3) rfl rfl rfl rfl rfl rfl

/- sponsion/call.Check -/
theorem checkP_ok (w : World) (hT : SgT w) :
    Gives Tryd.prog 11 #[.agg (clC cP).toArray] w fun u w1 => u = .int .i64 0 ∧ Keep nof w w1 := by
  have M0 := Mem.start w nof
  have hP := cP_ok
  refine Gives.enter (n := 46) Tryd.func11 rfl Tryd.ntmps11 rfl (env := [(0, .agg (clC cP).toArray)]) rfl ?_
  refine WC.seq ?_
  refine WC.region ?_
  refine WL.ac rfl rfl rfl (Ac.box M0 rfl rfl) ?_; rintro v1 w1 ⟨gc, rfl, hg1, K1, M1⟩
  refine WL.ex rfl rfl rfl (Ex.asg rfl) ?_
  refine WL.nil ?_
  refine WX.next (?_)
  refine WC.seq ?_
  refine WC.seq ?_
  refine WC.region ?_
  refine WL.ex rfl rfl rfl (Ex.fa fl43_0 rfl) ?_
  refine WL.ex rfl rfl rfl (Ex.load ty5 rfl (M1.cell (i := 0) (v := .int .u8 4) rfl (cl_g0 cP_ok))) ?_
  refine WL.ex rfl rfl rfl (Ex.cvI Tryd.underlying5 Tryd.underlying3 rfl (c := 4) rfl) ?_
  refine WL.ex rfl rfl rfl (Ex.geq rfl rfl) ?_
  rw [show decide ((4 : Int) ≥ 17) = false from rfl]
  refine WL.ex rfl rfl rfl (Ex.mv rfl) ?_
  refine WL.yes rfl rfl rfl rfl ?_
  refine WL.ex rfl rfl rfl (Ex.fa fl43_1 rfl) ?_
  refine WL.yes rfl rfl rfl rfl ?_
  refine WL.ex rfl rfl rfl (Ex.load ty5 rfl (M1.cell (i := 0) (v := .int .u8 1) rfl (cl_g1 cP_ok))) ?_
  refine WL.yes rfl rfl rfl rfl ?_
  refine WL.ex rfl rfl rfl (Ex.geq rfl rfl) ?_
  rw [show decide ((1 : Int) ≥ 16) = false from rfl]
  refine WL.ex rfl rfl rfl (Ex.pickF rfl rfl) ?_
  refine WL.nil ?_
  refine WX.next (?_)
  refine WC.no rfl ?_
  refine WC.skip ?_
  refine WX.next (?_)
  refine WC.seq ?_
  refine WC.region ?_
  refine WL.ex rfl rfl rfl (Ex.fa fl43_0 rfl) ?_
  refine WL.ex rfl rfl rfl (Ex.load ty5 rfl (M1.cell (i := 0) (v := .int .u8 4) rfl (cl_g0 cP_ok))) ?_
  refine WL.ex rfl rfl rfl (Ex.fa fl43_1 rfl) ?_
  refine WL.ex rfl rfl rfl (Ex.load ty5 rfl (M1.cell (i := 0) (v := .int .u8 1) rfl (cl_g1 cP_ok))) ?_
  refine WL.ex rfl rfl rfl (Ex.fa fl43_2 rfl) ?_
  refine WL.ex rfl rfl rfl (Ex.load ty33 rfl (M1.cell (i := 0) (v := .int .u64 2) rfl (cl_g2 cP_ok))) ?_
  refine WL.ex rfl rfl rfl (Ex.bldS bdC (parts := [(0, .tmp 17), (1, .tmp 19), (2, .tmp 21)]) [[.int .u8 4], [.int .u8 1], [.int .u64 2]] (l := clC cP) rfl rfl rfl (bldC (k := 4) (f := 1) (n := 2))) ?_
  refine WL.ac rfl rfl rfl (Ac.alloc M1 (l := clC cl0) (by kernel_rfl)) ?_; rintro v19 w19 ⟨gb, rfl, hg19, K19, M19⟩
  refine WL.ac0 rfl rfl (Ac.stA M19 ty43 rfl rfl rfl (cl_len (by first | assumption | exact cl0_ok)) cl_one (i := 0) rfl (by first | (rw [cl_len (by first | assumption | exact cl0_ok), cl_len (by first | assumption | exact cl0_ok)]; decide) | (rw [cl_len (by first | assumption | exact cl0_ok)]; decide) | rw [cl_len (by first | assumption | exact cl0_ok)])) ?_; rintro v20 w20 ⟨K20, M20⟩
  try dsimp only [List.set] at M20
  rw [splice_all _ _ (by first | rw [cl_len (by first | assumption | exact cl0_ok), cl_len (by first | assumption | exact cl0_ok)] | rw [cl_len (by first | assumption | exact cl0_ok)])] at M20
  refine WL.nil ?_
  refine WX.next (?_)
  refine WC.seq ?_
  refine WC.seq ?_
  refine WC.region ?_
  refine WL.ex rfl rfl rfl (Ex.fa fl43_0 rfl) ?_
  refine WL.ex rfl rfl rfl (Ex.load ty5 rfl (M20.cell (i := 1) (v := .int .u8 4) rfl (cl_g0 cP_ok))) ?_
  refine WL.ex rfl rfl rfl (Ex.iaA Tryd.underlying44 sz9 rfl rfl ⟨by omega, by omega⟩) ?_
  refine WL.ex rfl rfl rfl (Ex.load ty9 rfl (by have hq := (hT.keep0 M20.keep).at1 (strsV_get cP_s4); simpa using hq)) ?_
  refine WL.ac rfl rfl rfl (Ac.cvSB M20 Tryd.underlying9 Tryd.underlying29 Tryd.underlying5 rfl) ?_; rintro v25 w25 ⟨b4, c4, rfl, hg25, K25, M25⟩
  refine WL.ex rfl rfl rfl (Ex.len Tryd.underlying29 rfl) ?_
  refine WL.ex rfl rfl rfl (Ex.mv rfl) ?_
  refine WL.nil ?_
  refine WX.next (?_)
  refine WC.block ?_
  refine WC.loop (σ := Nat) (fun i => [(1, .pointer (some ⟨gc, 0, none⟩)), (3, .pointer (some ⟨gb, 0, none⟩)), (27, .slice (some ⟨b4, 0, none⟩) 0 c4), (28, .int .i64 (([] : List UInt8).length : Int)), (29, .int .i64 0)]) (fun i wr => i = 0 ∧ Mem w wr nof [blk gb (clC cP) 43, blk gc (clC cP) 43]) (fun i => 0) (0) ?_ (.cons rfl (.cons rfl (.cons rfl (.cons rfl (.cons rfl (.nil)))))) ?_
  · exact ⟨rfl, (Mem.sub M25 (.cons _ (.refl _)))⟩
  rintro i w28 ⟨_, M28⟩
  refine WC.seq ?_
  refine WC.region ?_
  refine WL.ex rfl rfl rfl (Ex.lss rfl rfl) ?_
  refine WL.nil ?_
  refine WX.next (?_)
  refine WC.seq ?_
  refine WC.cond_dec rfl (fun hc30 => ?_) (fun hc30 => ?_)
  · exfalso; simp at hc30
  · skip
    refine WC.exit ?_
    refine WX.exit_then (WX.exit_then (WX.exit_block (WX.next (?_))))
    refine WC.seq ?_
    refine WC.region ?_
    refine WL.ex rfl rfl rfl (Ex.loadA ty43 rfl (cl_len (by first | assumption | exact cl0_ok)) (M28.rdw (i := 1) rfl)) ?_
    refine WL.ex rfl rfl rfl (Ex.loadA ty43 rfl (cl_len (by first | assumption | exact cl0_ok)) (M28.rdw (i := 0) rfl)) ?_
    refine WL.ex rfl rfl rfl (Ex.eqA rfl rfl (eqCl w hP hP)) ?_
    rw [decide_eq_true rfl]
    refine WL.ac rfl rfl rfl (Ac.call rfl Tryd.func18 nm18 rfl (form_ok w28 true)) ?_; rintro v33 w33 ⟨rfl, K33⟩
    have M33 := M28.step K33
    refine WL.ex rfl rfl rfl (Ex.asg rfl) ?_
    refine WL.nil ?_
    refine WX.next (?_)
    refine WC.ret ?_
    refine WX.ret1 rfl rfl ?_
    exact ⟨rfl, M33.keep⟩

end Go.Proofs.YtnjbhhedaloghaaDoor
