/- Walks, written by gen.py off the translation's own print: each says what the Go function comes to. -/
import Derived.Test.YtnjbhhedaloghaaDoorPd
set_option linter.unusedVariables false
set_option linter.unusedSimpArgs false
namespace Go.Proofs.YtnjbhhedaloghaaDoor
open Go.Sx Go.RowKit
attribute [local irreducible] Ac Ex WL WC WX WP Gives

/- sponsion/call.Bytes -/
theorem bytesP_ok (w : World) (hT : SgT w) :
    Gives Tryd.prog 9 #[.agg (clC cP).toArray] w fun u w1 => ∃ v, u = .tuple #[v, .int .i64 0] ∧ New w w1 (row v 5 1 ([4, 1, 0, 0, 0, 0, 0, 0, 0, 2] : List UInt8).length (bytesV [4, 1, 0, 0, 0, 0, 0, 0, 0, 2])) := by
  have M0 := Mem.start w nof
  have hP := cP_ok
  refine Gives.enter (n := 40) Tryd.func9 rfl Tryd.ntmps9 rfl (env := [(0, .agg (clC cP).toArray)]) rfl ?_
  refine WC.seq ?_
  refine WC.region ?_
  refine WL.ac rfl rfl rfl (Ac.box M0 rfl rfl) ?_; rintro v1 w1 ⟨gc, rfl, hg1, K1, M1⟩
  refine WL.ex rfl rfl rfl (Ex.asg rfl) ?_
  refine WL.ex rfl rfl rfl (Ex.asg rfl) ?_
  refine WL.nil ?_
  refine WX.next (?_)
  refine WC.seq ?_
  refine WC.seq ?_
  refine WC.region ?_
  refine WL.ex rfl rfl rfl (Ex.loadA ty43 rfl (cl_len (by first | assumption | exact cl0_ok)) (M1.rdw (i := 0) rfl)) ?_
  refine WL.ac rfl rfl rfl (Ac.call rfl Tryd.func11 nm11 rfl (checkP_ok w1 (hT.keep0 M1.keep))) ?_; rintro v5 w5 ⟨rfl, K5⟩
  have M5 := M1.step K5
  refine WL.ex rfl rfl rfl (Ex.asg rfl) ?_
  refine WL.nil ?_
  refine WX.next (?_)
  refine WC.seq ?_
  refine WC.region ?_
  refine WL.ex rfl rfl rfl (Ex.mv rfl) ?_
  refine WL.ex rfl rfl rfl (Ex.neI rfl rfl) ?_
  rw [show (!decide ((0 : Int) = 0)) = false from rfl]
  refine WL.nil ?_
  refine WX.next (?_)
  refine WC.no rfl ?_
  refine WC.skip ?_
  refine WX.next (?_)
  refine WC.seq ?_
  have D9 := Keep.drew nof w5
  have M9 := M5.step D9
  refine WC.draw (Keep (FP M9 []) w5.drew) [] (.one 0 0 (.one 2 0 (.one 5 0 (.one 8 0 (.one 3 1 (.one 6 1 (.one 9 1 (.one 1 2 (.one 4 2 (.one 7 2 (.one 10 2 (.one 11 0 .nil)))))))))))) mixed (by kernel_rfl) (by kernel_rfl) (by kernel_rfl) (HQ.then_ HQ.body) ?_
  revert D9 M9; generalize w5.drew = w9; intro D9 M9
  have B9 : Mem w9 w9 (FP M9 []) [] := M9.base [] (by decide)
  refine WP.p rfl rfl rfl rfl (fun _ => Ex.bld bd50 (parts := []) rfl rfl rfl rfl) ?_
  refine WP.p rfl rfl rfl rfl (fun _ => Ex.fa fl43_0 rfl) ?_
  refine WP.p rfl rfl rfl rfl (fun _ => Ex.fa fl43_1 rfl) ?_
  refine WP.p rfl rfl rfl rfl (fun _ => Ex.fa fl43_2 rfl) ?_
  refine WP.q B9.keep rfl rfl rfl rfl (fun w' hS => Ex.load ty5 rfl (v := .int .u8 4) (M9.fp_cell (j := 0) hS rfl (cl_g0 cP_ok) rfl)) ?_
  refine WP.q B9.keep rfl rfl rfl rfl (fun w' hS => Ex.load ty5 rfl (v := .int .u8 1) (M9.fp_cell (j := 0) hS rfl (cl_g1 cP_ok) rfl)) ?_
  refine WP.q B9.keep rfl rfl rfl rfl (fun w' hS => Ex.load ty33 rfl (v := .int .u64 2) (M9.fp_cell (j := 0) hS rfl (cl_g2 cP_ok) rfl)) ?_
  refine WP.a rfl rfl rfl rfl (Ac.box (M9.free (r := row (.slice none 0 0) 5 1 ([] : List UInt8).length (bytesV [])) (row_nil _ _ _) rfl) rfl rfl) ?_; rintro v17 w17 ⟨g, rfl, hg17, K17, M17⟩
  have C17 := M17.close1 (fun v => [v])
  have B17 := B9.grow K17 (C17.get (i := 0) rfl) (by intro b hb; simp [Value.ownBlock, box1] at hb; omega)
  refine .inr ⟨fun _ => B17.keep, ?_⟩
  have M17 := M17.close1 (fun v => [v])
  refine WP.a rfl rfl rfl rfl (Ac.call rfl Tryd.func12 nm12 rfl (wU8_ok w17 g _ _ 4 (M17.get (i := 0) rfl) (by decide) (by decide))) ?_; rintro v18 w18 ⟨rfl, v18, T18⟩
  have B18 := B17.turned (i := 0) rfl T18
  refine .inr ⟨fun _ => B18.keep, ?_⟩
  have M18 := M17.turned (i := 0) rfl T18
  try dsimp only [List.set] at M18
  refine WP.a rfl rfl rfl rfl (Ac.call rfl Tryd.func12 nm12 rfl (wU8_ok w18 g _ _ 1 (M18.get (i := 0) rfl) (by decide) (by decide))) ?_; rintro v19 w19 ⟨rfl, v19, T19⟩
  have B19 := B18.turned (i := 0) rfl T19
  refine .inr ⟨fun _ => B19.keep, ?_⟩
  have M19 := M18.turned (i := 0) rfl T19
  try dsimp only [List.set] at M19
  refine WP.a rfl rfl rfl rfl (Ac.call rfl Tryd.func13 nm13 rfl (wU64_ok w19 g _ _ 2 (M19.get (i := 0) rfl) (by decide) (by decide))) ?_; rintro v20 w20 ⟨rfl, vW, T20⟩
  have B20 := B19.turned (i := 0) rfl T20
  refine .inr ⟨fun _ => B20.keep, ?_⟩
  have M20 := M19.turned (i := 0) rfl T20
  try dsimp only [List.set] at M20
  refine WP.p rfl rfl rfl rfl (fun _ => Ex.asg rfl) ?_
  refine WP.nil ?_
  refine WX.next (?_)
  refine WC.seq ?_
  refine WC.seq ?_
  refine WC.region ?_
  refine WL.ex rfl rfl rfl (Ex.fa fl43_0 rfl) ?_
  refine WL.ex rfl rfl rfl (Ex.load ty5 rfl (M20.cell (i := 1) (v := .int .u8 4) rfl (cl_g0 cP_ok))) ?_
  refine WL.ex rfl rfl rfl (Ex.iaA Tryd.underlying44 sz9 rfl rfl ⟨by omega, by omega⟩) ?_
  refine WL.ex rfl rfl rfl (Ex.load ty9 rfl (by have hq := (hT.keep0 M20.keep).at1 (strsV_get cP_s4); simpa using hq)) ?_
  refine WL.ac rfl rfl rfl (Ac.cvSB M20 Tryd.underlying9 Tryd.underlying29 Tryd.underlying5 rfl) ?_; rintro v26 w26 ⟨b4, c4, rfl, hg26, K26, M26⟩
  refine WL.ex rfl rfl rfl (Ex.len Tryd.underlying29 rfl) ?_
  refine WL.ex rfl rfl rfl (Ex.mv rfl) ?_
  refine WL.nil ?_
  refine WX.next (?_)
  refine WC.block ?_
  refine WC.loop (σ := Value) (fun v => [(1, .pointer (some ⟨gc, 0, none⟩)), (5, .pointer (some ⟨g, 0, none⟩)), (28, .slice (some ⟨b4, 0, none⟩) 0 c4), (29, .int .i64 (([] : List UInt8).length : Int)), (30, .int .i64 0)]) (fun v wr => True ∧ Mem w wr nof [wrR g v [4, 1, 0, 0, 0, 0, 0, 0, 0, 2]]) (fun v => 0) (vW) ?_ (.cons rfl (.cons rfl (.cons rfl (.cons rfl (.cons rfl (.nil)))))) ?_
  · exact ⟨trivial, (Mem.sub M26 (.cons _ (.cons_cons _ (List.nil_sublist _))))⟩
  rintro v w29 ⟨_, M29⟩
  refine WC.seq ?_
  refine WC.region ?_
  refine WL.ex rfl rfl rfl (Ex.lss rfl rfl) ?_
  refine WL.nil ?_
  refine WX.next (?_)
  refine WC.seq ?_
  refine WC.cond_dec rfl (fun hc31 => ?_) (fun hc31 => ?_)
  · exfalso; simp at hc31
  · skip
    refine WC.exit ?_
    refine WX.exit_then (WX.exit_then (WX.exit_block (WX.next (?_))))
    refine WC.seq ?_
    refine WC.region ?_
    refine WL.ex rfl rfl rfl (Ex.mv rfl) ?_
    refine WL.ac rfl rfl rfl (Ac.call rfl Tryd.func15 nm15 rfl (wBytes_ok w29 _ _ _ (M29.get (i := 0) rfl) (by decide))) ?_; rintro v32 w32 N32
    have M32 := M29.new N32
    refine WL.ex rfl rfl rfl (Ex.asg rfl) ?_
    refine WL.ex rfl rfl rfl (Ex.asg rfl) ?_
    refine WL.nil ?_
    refine WX.next (?_)
    refine WC.ret ?_
    refine WX.ret2 rfl rfl rfl ?_
    exact ⟨_, rfl, M32.toNew⟩

/- sponsion/sponsionlaw08.lives -/
theorem lives08_ok (w : World) (hT : SgT w) :
    Gives Tryd.prog 4 #[] w fun u w1 => u = .bool true ∧ Keep nof w w1 := by
  have M0 := Mem.start w nof
  refine Gives.enter (n := 15) Tryd.func4 rfl Tryd.ntmps4 rfl (env := []) rfl ?_
  refine WC.seq ?_
  refine WC.region ?_
  refine WL.ex rfl rfl rfl (Ex.asg rfl) ?_
  refine WL.nil ?_
  refine WX.next (?_)
  refine WC.seq ?_
  refine WC.region ?_
  refine WL.ex rfl rfl rfl (Ex.bldS bdC (parts := [(0, .const (.int .u8 4)), (1, .const (.int .u8 1)), (2, .const (.int .u64 2))]) [[.int .u8 4], [.int .u8 1], [.int .u64 2]] (l := clC cP) rfl rfl rfl (bldC (k := 4) (f := 1) (n := 2))) ?_
  refine WL.ac rfl rfl rfl (Ac.call rfl Tryd.func9 nm9 rfl (bytesP_ok w (hT.keep0 M0.keep))) ?_; rintro v3 w3 ⟨v3, rfl, N3⟩
  have M3 := M0.new N3
  obtain ⟨Ab, cb, rfl⟩ := own_slice (M3.get (i := 0) rfl)
  refine WL.ex rfl rfl rfl (Ex.mv rfl) ?_
  refine WL.ex rfl rfl rfl (Ex.ext rfl rfl) ?_
  refine WL.ex rfl rfl rfl (Ex.ext rfl rfl) ?_
  refine WL.ex rfl rfl rfl (Ex.asg rfl) ?_
  refine WL.ex rfl rfl rfl (Ex.asg rfl) ?_
  refine WL.nil ?_
  refine WX.next (?_)
  refine WC.seq ?_
  refine WC.region ?_
  refine WL.ex rfl rfl rfl (Ex.mv rfl) ?_
  refine WL.ex rfl rfl rfl (Ex.eqI rfl rfl) ?_
  rw [decide_eq_true rfl]
  refine WL.ex rfl rfl rfl (Ex.mv rfl) ?_
  refine WL.yes rfl rfl rfl rfl ?_
  refine WL.ex rfl rfl rfl (Ex.mv rfl) ?_
  refine WL.yes rfl rfl rfl rfl ?_
  refine WL.ex rfl rfl rfl (Ex.cvBS Tryd.underlying29 Tryd.underlying5 Tryd.underlying9 rfl (M3.rdr (i := 0) rfl)) ?_
  refine WL.yes rfl rfl rfl rfl ?_
  refine WL.ex rfl rfl rfl (Ex.eqS rfl rfl) ?_
  rw [decide_eq_true rfl]
  refine WL.ex rfl rfl rfl (Ex.pickT rfl rfl) ?_
  refine WL.ex rfl rfl rfl (Ex.asg rfl) ?_
  refine WL.nil ?_
  refine WX.next (?_)
  refine WC.ret ?_
  refine WX.ret1 rfl rfl ?_
  exact ⟨rfl, M3.keep⟩

end Go.Proofs.YtnjbhhedaloghaaDoor
