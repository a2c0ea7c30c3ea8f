/- Walks, written by gen.py off the translation's own print: each says what the Go function comes to. -/
import Derived.Test.YtfncnpnjhcaphaaDoorIa
set_option linter.unusedVariables false
set_option linter.unusedSimpArgs false
namespace Go.Proofs.YtfncnpnjhcaphaaDoor
open Go.Sx Go.RowKit
attribute [local irreducible] Ac Ex WL WC WX WP Gives sha

/- sponsion/huge.Bytes -/
theorem hBytes_ok (w : World) (a : List Nat) (ha : Int4 a) :
    Gives Tryd.prog 69 #[.agg (intV a).toArray] w fun u w1 => u = .agg (bytesV (intB a)).toArray ∧ Keep nof w w1 := by
  have M0 := Mem.start w nof
  obtain ⟨hl4, hb4⟩ := ha
  refine Gives.enter (n := 24) Tryd.func69 rfl Tryd.ntmps69 rfl (env := [(0, .agg (intV a).toArray)]) rfl ?_
  refine WC.seq ?_
  refine WC.region ?_
  refine WL.ac rfl rfl rfl (Ac.box M0 rfl rfl) ?_; rintro v1 w1 ⟨g1, rfl, hg1, K1, M1⟩
  refine WL.ac rfl rfl rfl (Ac.alloc M1 (l := bytesV (List.replicate 32 0)) (by kernel_rfl)) ?_; rintro v2 w2 ⟨g2, rfl, hg2, K2, M2⟩
  refine WL.nil ?_
  refine WX.next (?_)
  refine WC.seq ?_
  refine WC.region ?_
  refine WL.ac rfl rfl rfl (Ac.alloc M2 (l := bytesV (List.replicate 32 0)) (by kernel_rfl)) ?_; rintro v3 w3 ⟨g3, rfl, hg3, K3, M3⟩
  refine WL.nil ?_
  refine WX.next (?_)
  refine WC.seq ?_
  refine WC.seq ?_
  refine WC.region ?_
  refine WL.ex rfl rfl rfl (Ex.mv rfl) ?_
  refine WL.nil ?_
  refine WX.next (?_)
  refine WC.block ?_
  refine WC.loop (σ := Nat) (fun i => [(1, .pointer (some ⟨g1, 0, none⟩)), (2, .pointer (some ⟨g2, 0, none⟩)), (3, .pointer (some ⟨g3, 0, none⟩)), (6, .int .i64 (i : Int))]) (fun i wr => i ≤ 32 ∧ Mem w wr nof [blk g3 (bytesV (fillTo 32 i (fun i => UInt8.ofNat (a.getD ((31 - i) / 8) 0 / 2 ^ (8 * ((31 - i) % 8)))) 0)) 24, blk g2 (bytesV (List.replicate 32 0)) 24, blk g1 (intV a) 55]) (fun i => 32 - i) (0) ?_ (.cons rfl (.cons rfl (.cons rfl (.cons rfl (.nil))))) ?_
  · exact ⟨by omega, by rw [fillTo_zero]; exact M3⟩
  rintro i w5 ⟨hi, M5⟩
  refine WC.seq ?_
  refine WC.region ?_
  refine WL.ex rfl rfl rfl (Ex.lss rfl rfl) ?_
  refine WL.nil ?_
  refine WX.next (?_)
  refine WC.seq ?_
  refine WC.cond_dec rfl (fun hc7 => ?_) (fun hc7 => ?_)
  · skip
    refine WC.skip ?_
    refine WX.next (?_)
    refine WC.seq ?_
    refine WC.block ?_
    refine WC.seq ?_
    refine WC.region ?_
    refine WL.ex rfl rfl rfl (Ex.mv rfl) ?_
    refine WL.ex rfl rfl rfl (Ex.asg rfl) ?_
    refine WL.nil ?_
    refine WX.next (?_)
    refine WC.seq ?_
    refine WC.region ?_
    refine WL.ex rfl rfl rfl (Ex.mv rfl) ?_
    refine WL.ex rfl rfl rfl (Ex.sub rfl rfl (c := ((31 - i : Nat) : Int)) (by rw [i64w _ (by omega) (by omega)]; omega)) ?_
    refine WL.ex rfl rfl rfl (Ex.asg rfl) ?_
    refine WL.nil ?_
    refine WX.next (?_)
    refine WC.region ?_
    refine WL.ex rfl rfl rfl (Ex.mv rfl) ?_
    refine WL.ex rfl rfl rfl (Ex.mv rfl) ?_
    refine WL.ex rfl rfl rfl (Ex.quo rfl rfl (by decide) (c := (((31 - i) / 8 : Nat) : Int)) (by rw [IntWalk.i64_quo _ _ (by omega)]; omega)) ?_
    refine WL.ex rfl rfl rfl (Ex.iaA Tryd.underlying55 sz53 rfl rfl ⟨by omega, by omega⟩) ?_
    refine WL.ex rfl rfl rfl (Ex.load ty53 rfl (M5.cell (i := 2) (v := .int .u64 ((a.getD ((31 - i) / 8) 0 : Nat) : Int)) rfl (by simp only [Int.toNat_natCast, Nat.mul_one, Nat.zero_add]; exact intV_get (by omega)))) ?_
    refine WL.ex rfl rfl rfl (Ex.mv rfl) ?_
    refine WL.ex rfl rfl rfl (Ex.rem rfl rfl (by decide) (c := (((31 - i) % 8 : Nat) : Int)) (by rw [Int.tmod_eq_emod_of_nonneg (by omega)]; omega)) ?_
    refine WL.ex rfl rfl rfl (Ex.mul rfl rfl (c := ((8 * ((31 - i) % 8) : Nat) : Int)) (by rw [i64w _ (by omega) (by omega)]; omega)) ?_
    refine WL.ex rfl rfl rfl (Ex.shr rfl rfl (m := 8 * ((31 - i) % 8)) rfl (shrN _ _ _ (by simp [IntKind.bits]; omega))) ?_
    refine WL.ex rfl rfl rfl (Ex.cvI Tryd.underlying53 Tryd.underlying5 rfl (u8b _)) ?_
    refine WL.ex rfl rfl rfl (Ex.iaA Tryd.underlying24 sz5 rfl rfl ⟨by omega, by omega⟩) ?_
    refine WL.ac0 rfl rfl (Ac.st M5 ty5 rfl rfl rfl (i := 0) rfl (by simp; omega)) ?_; rintro v23 w23 ⟨K23, M23⟩
    try dsimp only [List.set] at M23
    simp only [Int.toNat_natCast, Nat.mul_one, Nat.zero_add] at M23
    rw [bytesV_set, fillTo_set 32 i (fun i => UInt8.ofNat (a.getD ((31 - i) / 8) 0 / 2 ^ (8 * ((31 - i) % 8))))] at M23
    refine WL.nil ?_
    refine WX.normal_block (WX.next (?_))
    refine WC.region ?_
    refine WL.ex rfl rfl rfl (Ex.add rfl rfl (i64w _ (by omega) (by omega))) ?_
    refine WL.ex rfl rfl rfl (Ex.mv rfl) ?_
    refine WL.nil ?_
    refine WX.again (i + 1) ?_ ?_ (.cons rfl (.cons rfl (.cons rfl (.cons rfl (.nil)))))
    · (try dsimp only); omega
    · exact ⟨by omega, M23⟩
  · obtain rfl : i = 32 := by omega
    rw [fillTo_full 32 32 (Nat.le_refl _)] at M5
    refine WC.exit ?_
    refine WX.exit_then (WX.exit_then (WX.exit_block (WX.next (?_))))
    refine WC.seq ?_
    refine WC.region ?_
    refine WL.ex rfl rfl rfl (Ex.loadA ty24 rfl (l := bytesV (intB a)) (by simp) (M5.rdw (i := 0) rfl)) ?_
    refine WL.ac0 rfl rfl (Ac.stA M5 ty24 rfl rfl (vs := bytesV (intB a)) rfl (by simp) (bytesV_one _) (i := 1) rfl (by simp)) ?_; rintro v27 w27 ⟨K27, M27⟩
    try dsimp only [List.set] at M27
    rw [splice_all _ _ (by simp)] at M27
    refine WL.nil ?_
    refine WX.next (?_)
    refine WC.ret ?_
    refine WX.retc rfl rfl (run_loadVarA ty24 (l := bytesV (intB a)) (by simp) (M27.rdw (i := 1) rfl)) ?_
    exact ⟨rfl, M27.keep⟩

/- (*sponsion/pack.Writer).Int -/
theorem wInt_ok (w : World) (g : Nat) (v : Value) (l : List UInt8) (a : List Nat) (h : (wrR g v l).sat w) (ha : Int4 a) (hb : l.length ≤ 35184372088832) :
    Gives Tryd.prog 62 #[.pointer (some ⟨g, 0, none⟩), .agg (intV a).toArray] w fun u w1 => u = .pointer (some ⟨g, 0, none⟩) ∧ ∃ v1, Turn w w1 (wrR g v l) (wrR g v1 (l ++ intB a)) := by
  have M0 := Mem.begin h
  refine Gives.enter (n := 11) Tryd.func62 rfl Tryd.ntmps62 rfl (env := [(0, .pointer (some ⟨g, 0, none⟩)), (1, .agg (intV a).toArray)]) rfl ?_
  refine WC.seq ?_
  refine WC.region ?_
  refine WL.ac rfl rfl rfl (Ac.box M0 rfl rfl) ?_; rintro v1 w1 ⟨g1, rfl, hg1, K1, M1⟩
  refine WL.ex rfl rfl rfl (Ex.asg rfl) ?_
  refine WL.nil ?_
  refine WX.next (?_)
  refine WC.seq ?_
  refine WC.region ?_
  refine WL.ex rfl rfl rfl (Ex.loadA ty55 rfl (l := intV a) (by simpa using ha.1) (M1.rdw (i := 0) rfl)) ?_
  refine WL.ac rfl rfl rfl (Ac.call rfl Tryd.func69 nm69 rfl (hBytes_ok w1 a ha)) ?_; rintro v4 w4 ⟨rfl, K4⟩
  have M4 := M1.step K4
  refine WL.ac rfl rfl rfl (Ac.alloc M4 (l := bytesV (List.replicate 32 0)) (by kernel_rfl)) ?_; rintro v5 w5 ⟨gb, rfl, hg5, K5, M5⟩
  refine WL.ac0 rfl rfl (Ac.stA M5 ty24 rfl rfl (vs := bytesV (intB a)) rfl (by simp) (bytesV_one _) (i := 0) rfl (by simp)) ?_; rintro v6 w6 ⟨K6, M6⟩
  try dsimp only [List.set] at M6
  rw [splice_all _ _ (by simp)] at M6
  refine WL.nil ?_
  refine WX.next (?_)
  refine WC.seq ?_
  refine WC.region ?_
  refine WL.ex rfl rfl rfl (Ex.mv rfl) ?_
  refine WL.ex rfl rfl rfl (Ex.slA Tryd.underlying24 sz5 rfl) ?_
  refine WL.ac rfl rfl rfl (Ac.call rfl Tryd.func50 nm50 rfl (wRaw_ok w6 g v l _ 32 (intB a) (M6.get (i := 2) rfl) (M6.rdw (i := 0) rfl) hb (by simp))) ?_; rintro v9 w9 ⟨rfl, v1, T9⟩
  have M9 := M6.turned (i := 2) rfl T9
  refine WL.ex rfl rfl rfl (Ex.asg rfl) ?_
  refine WL.nil ?_
  refine WX.next (?_)
  refine WC.ret ?_
  refine WX.ret1 rfl rfl ?_
  exact ⟨rfl, v1, (Mem.sub M9 (.cons _ (.cons _ (.refl _)))).toTurn⟩

/- sponsion/sponsionref04.Int -/
theorem int4_ok (w : World) (a : List Nat) (ha : Int4 a) :
    Gives Tryd.prog 57 #[.agg (intV a).toArray] w fun u w1 => u = str (intB a) ∧ Keep nof w w1 := by
  have M0 := Mem.start w nof
  obtain ⟨hl4, hb4⟩ := ha
  refine Gives.enter (n := 18) Tryd.func57 rfl Tryd.ntmps57 rfl (env := [(0, .agg (intV a).toArray)]) rfl ?_
  refine WC.seq ?_
  refine WC.region ?_
  refine WL.ac rfl rfl rfl (Ac.box M0 rfl rfl) ?_; rintro v1 w1 ⟨g1, rfl, hg1, K1, M1⟩
  refine WL.ex rfl rfl rfl (Ex.asg rfl) ?_
  refine WL.nil ?_
  refine WX.next (?_)
  refine WC.seq ?_
  refine WC.draw (Keep nof w1.drew) [] (.one 0 0 (.one 3 0 (.one 7 0 (.one 11 0 (.one 1 1 (.one 4 1 (.one 8 1 (.one 12 1 (.one 2 2 (.one 5 2 (.one 6 0 (.one 9 2 (.one 10 0 (.one 13 2 (.one 14 0 (.one 15 0 .nil)))))))))))))))) mixed (by kernel_rfl) (by kernel_rfl) (by kernel_rfl) (HQ.then_ HQ.body) ?_
  obtain ⟨w3, hw3⟩ : ∃ v, v = w1.drew := ⟨_, rfl⟩
  have D3 : Keep nof w1 w3 := by rw [hw3]; exact Keep.drew _ _
  have M3 := M1.step D3
  rw [← hw3]; clear hw3
  refine WP.p rfl rfl rfl rfl (fun _ => Ex.iaA Tryd.underlying55 sz53 rfl rfl ⟨by omega, by omega⟩) ?_
  refine WP.p rfl rfl rfl rfl (fun _ => Ex.iaA Tryd.underlying55 sz53 rfl rfl ⟨by omega, by omega⟩) ?_
  refine WP.p rfl rfl rfl rfl (fun _ => Ex.iaA Tryd.underlying55 sz53 rfl rfl ⟨by omega, by omega⟩) ?_
  refine WP.p rfl rfl rfl rfl (fun _ => Ex.iaA Tryd.underlying55 sz53 rfl rfl ⟨by omega, by omega⟩) ?_
  refine WP.q (Keep.refl _ _) rfl rfl rfl rfl (fun w' hS => Ex.load ty53 rfl (v := .int .u64 ((a.getD 3 0 : Nat) : Int)) (hS.cell (M3.cell (i := 0) rfl (intV_get (by omega))) (fun f => f))) ?_
  refine WP.q (Keep.refl _ _) rfl rfl rfl rfl (fun w' hS => Ex.load ty53 rfl (v := .int .u64 ((a.getD 2 0 : Nat) : Int)) (hS.cell (M3.cell (i := 0) rfl (intV_get (by omega))) (fun f => f))) ?_
  refine WP.q (Keep.refl _ _) rfl rfl rfl rfl (fun w' hS => Ex.load ty53 rfl (v := .int .u64 ((a.getD 1 0 : Nat) : Int)) (hS.cell (M3.cell (i := 0) rfl (intV_get (by omega))) (fun f => f))) ?_
  refine WP.q (Keep.refl _ _) rfl rfl rfl rfl (fun w' hS => Ex.load ty53 rfl (v := .int .u64 ((a.getD 0 0 : Nat) : Int)) (hS.cell (M3.cell (i := 0) rfl (intV_get (by omega))) (fun f => f))) ?_
  refine WP.as rfl rfl rfl rfl (Ac.call rfl Tryd.func52 nm52 rfl (num4_ok w3 _ 8 (hb4 3) (by omega))) ?_; rintro v12 w12 ⟨rfl, K12⟩
  refine ⟨Keep nof w12, fun u h => K12.trans h, Keep.refl _ _, ?_⟩
  have M12 := M3.step K12
  refine WP.as rfl rfl rfl rfl (Ac.call rfl Tryd.func52 nm52 rfl (num4_ok w12 _ 8 (hb4 2) (by omega))) ?_; rintro v13 w13 ⟨rfl, K13⟩
  refine ⟨Keep nof w13, fun u h => K13.trans h, Keep.refl _ _, ?_⟩
  have M13 := M12.step K13
  refine WP.p rfl rfl rfl rfl (fun _ => Ex.addS rfl rfl (by first | (simp; done) | (simp; omega) | omega)) ?_
  refine WP.as rfl rfl rfl rfl (Ac.call rfl Tryd.func52 nm52 rfl (num4_ok w13 _ 8 (hb4 1) (by omega))) ?_; rintro v15 w15 ⟨rfl, K15⟩
  refine ⟨Keep nof w15, fun u h => K15.trans h, Keep.refl _ _, ?_⟩
  have M15 := M13.step K15
  refine WP.p rfl rfl rfl rfl (fun _ => Ex.addS rfl rfl (by first | (simp; done) | (simp; omega) | omega)) ?_
  refine WP.as rfl rfl rfl rfl (Ac.call rfl Tryd.func52 nm52 rfl (num4_ok w15 _ 8 (hb4 0) (by omega))) ?_; rintro v17 w17 ⟨rfl, K17⟩
  refine ⟨Keep nof w17, fun u h => K17.trans h, Keep.refl _ _, ?_⟩
  have M17 := M15.step K17
  refine WP.p rfl rfl rfl rfl (fun _ => Ex.addS rfl rfl (by first | (simp; done) | (simp; omega) | omega)) ?_
  refine WP.p rfl rfl rfl rfl (fun _ => Ex.asg rfl) ?_
  refine WP.nil ?_
  refine WX.next (?_)
  refine WC.ret ?_
  refine WX.ret1 rfl rfl ?_
  exact ⟨congrArg str (intB_be a hl4).symm, M17.keep⟩

/- sponsion/huge.Read -/
theorem hRead_ok (w : World) (A : Option Addr) (c : Nat) (l : List UInt8) (hr : Rd w A (bytesV l)) :
    Gives Tryd.prog 71 #[.slice A l.length c] w fun u w1 => u = .tuple #[.agg (intV (if l.length = 32 then ofB l else [0, 0, 0, 0])).toArray, .int .i64 (if l.length < 32 then 4 else if 32 < l.length then 5 else 0)] ∧ Keep nof w w1 := by
  have M0 := Mem.start w nof
  refine Gives.enter (n := 41) Tryd.func71 rfl Tryd.ntmps71 rfl (env := [(0, .slice A l.length c)]) rfl ?_
  refine WC.seq ?_
  refine WC.region ?_
  refine WL.ac rfl rfl rfl (Ac.alloc M0 (l := intV [0, 0, 0, 0]) (by kernel_rfl)) ?_; rintro v1 w1 ⟨g1, rfl, hg1, K1, M1⟩
  refine WL.ex rfl rfl rfl (Ex.asg rfl) ?_
  refine WL.nil ?_
  refine WX.next (?_)
  refine WC.seq ?_
  refine WC.block ?_
  refine WC.seq ?_
  refine WC.region ?_
  refine WL.ex rfl rfl rfl (Ex.mv rfl) ?_
  refine WL.ex rfl rfl rfl (Ex.len Tryd.underlying22 rfl) ?_
  refine WL.ex rfl rfl rfl (Ex.lss rfl rfl) ?_
  refine WL.ex rfl rfl rfl (Ex.asg rfl) ?_
  refine WL.nil ?_
  refine WX.next (?_)
  refine WC.cond_dec rfl (fun hc8 => ?_) (fun hc8 => ?_)
  · skip
    refine WC.seq ?_
    refine WC.region ?_
    refine WL.ex rfl rfl rfl (Ex.bld bd55 (parts := []) rfl rfl rfl rfl) ?_
    refine WL.ac0 rfl rfl (Ac.stA M1 ty55 rfl rfl (vs := intV [0, 0, 0, 0]) rfl rfl (intV_one _) (i := 0) rfl (by simp)) ?_; rintro v8 w8 ⟨K8, M8⟩
    try dsimp only [List.set] at M8
    rw [splice_all _ _ (by simp)] at M8
    refine WL.ex rfl rfl rfl (Ex.asg rfl) ?_
    refine WL.nil ?_
    refine WX.next (?_)
    refine WC.ret ?_
    refine WX.ret_block (WX.ret_then (?_))
    refine WX.retn rfl (.cell rfl (run_loadVarA ty55 (by first | rfl | simp [ofB]) (M8.rdw (i := 0) rfl)) (.tmp rfl .nil)) rfl ?_
    first
      | exact ⟨by rw [if_neg (show ¬ l.length = 32 by omega), if_pos (show l.length < 32 by omega)], M8.keep⟩
      | exact ⟨by rw [if_neg (show ¬ l.length = 32 by omega), if_neg (show ¬ l.length < 32 by omega), if_pos (show 32 < l.length by omega)], M8.keep⟩
      | exact ⟨by rw [if_pos hl, if_neg (show ¬ l.length < 32 by omega), if_neg (show ¬ 32 < l.length by omega)], M8.keep⟩
  · skip
    refine WC.seq ?_
    refine WC.region ?_
    refine WL.ex rfl rfl rfl (Ex.mv rfl) ?_
    refine WL.ex rfl rfl rfl (Ex.len Tryd.underlying22 rfl) ?_
    refine WL.ex rfl rfl rfl (Ex.gtr rfl rfl) ?_
    refine WL.ex rfl rfl rfl (Ex.asg rfl) ?_
    refine WL.nil ?_
    refine WX.next (?_)
    refine WC.cond_dec rfl (fun hc13 => ?_) (fun hc13 => ?_)
    · skip
      refine WC.seq ?_
      refine WC.region ?_
      refine WL.ex rfl rfl rfl (Ex.bld bd55 (parts := []) rfl rfl rfl rfl) ?_
      refine WL.ac0 rfl rfl (Ac.stA M1 ty55 rfl rfl (vs := intV [0, 0, 0, 0]) rfl rfl (intV_one _) (i := 0) rfl (by simp)) ?_; rintro v15 w15 ⟨K15, M15⟩
      try dsimp only [List.set] at M15
      rw [splice_all _ _ (by simp)] at M15
      refine WL.ex rfl rfl rfl (Ex.asg rfl) ?_
      refine WL.nil ?_
      refine WX.next (?_)
      refine WC.ret ?_
      refine WX.ret_block (WX.ret_then (?_))
      refine WX.retn rfl (.cell rfl (run_loadVarA ty55 (by first | rfl | simp [ofB]) (M15.rdw (i := 0) rfl)) (.tmp rfl .nil)) rfl ?_
      first
        | exact ⟨by rw [if_neg (show ¬ l.length = 32 by omega), if_pos (show l.length < 32 by omega)], M15.keep⟩
        | exact ⟨by rw [if_neg (show ¬ l.length = 32 by omega), if_neg (show ¬ l.length < 32 by omega), if_pos (show 32 < l.length by omega)], M15.keep⟩
        | exact ⟨by rw [if_pos hl, if_neg (show ¬ l.length < 32 by omega), if_neg (show ¬ 32 < l.length by omega)], M15.keep⟩
    · have hl : l.length = 32 := by omega
      refine WC.skip ?_
      refine WX.normal_block (WX.next (?_))
      refine WC.seq ?_
      refine WC.region ?_
      refine WL.ac rfl rfl rfl (Ac.alloc M1 (l := intV [0, 0, 0, 0]) (by kernel_rfl)) ?_; rintro v17 w17 ⟨g2, rfl, hg17, K17, M17⟩
      refine WL.nil ?_
      refine WX.next (?_)
      refine WC.seq ?_
      refine WC.seq ?_
      refine WC.region ?_
      refine WL.ex rfl rfl rfl (Ex.mv rfl) ?_
      refine WL.ex rfl rfl rfl (Ex.len Tryd.underlying22 rfl) ?_
      refine WL.ex rfl rfl rfl (Ex.mv rfl) ?_
      refine WL.nil ?_
      refine WX.next (?_)
      refine WC.block ?_
      refine WC.loop (σ := Nat) (fun i => [(2, .pointer (some ⟨g1, 0, none⟩)), (3, .int .i64 0), (4, .pointer (some ⟨g2, 0, none⟩)), (18, .slice A l.length c), (19, .int .i64 (l.length : Int)), (20, .int .i64 (i : Int))]) (fun i wr => i ≤ 32 ∧ Mem w wr nof [blk g2 (intV (limbs l i)) 55, blk g1 (intV [0, 0, 0, 0]) 55]) (fun i => 32 - i) (0) ?_ (.cons rfl (.cons rfl (.cons rfl (.cons rfl (.cons rfl (.cons rfl (.nil))))))) ?_
      · exact ⟨by omega, by rw [limbs_zero]; exact M17⟩
      rintro i w21 ⟨hi, M21⟩
      refine WC.seq ?_
      refine WC.region ?_
      refine WL.ex rfl rfl rfl (Ex.lss rfl rfl) ?_
      refine WL.nil ?_
      refine WX.next (?_)
      refine WC.seq ?_
      refine WC.cond_dec rfl (fun hc21 => ?_) (fun hc21 => ?_)
      · obtain ⟨b, hb⟩ : ∃ b, l[i]? = some b := ⟨_, List.getElem?_eq_getElem (by omega)⟩
        have hb8 := b.toNat_lt
        have hch := chunk_length (l := l) (i := i) (j := (31 - i) / 8) (by omega)
        have hli := lim_lt (chunk l i ((31 - i) / 8)) (by rw [hch]; omega)
        have hls := limbs_step hl hb
        obtain ⟨b1, o1, hA, _⟩ := hr.plain (by simp; omega)
        subst hA
        refine WC.skip ?_
        refine WX.next (?_)
        refine WC.seq ?_
        refine WC.block ?_
        refine WC.seq ?_
        refine WC.region ?_
        refine WL.ex rfl rfl rfl (Ex.mv rfl) ?_
        refine WL.ex rfl rfl rfl (Ex.ia Tryd.underlying22 sz5 rfl rfl ⟨by omega, by omega⟩) ?_
        refine WL.ex rfl rfl rfl (Ex.load ty5 rfl (Rd.at1 (u := byteV b) (hr.keep0 M21.keep) (j := (i : Int).toNat * 1) (by simp [bytesV_get hb]))) ?_
        refine WL.ex rfl rfl rfl (Ex.asg rfl) ?_
        refine WL.ex rfl rfl rfl (Ex.asg rfl) ?_
        refine WL.nil ?_
        refine WX.next (?_)
        refine WC.seq ?_
        refine WC.region ?_
        refine WL.ex rfl rfl rfl (Ex.mv rfl) ?_
        refine WL.ex rfl rfl rfl (Ex.sub rfl rfl (c := ((31 - i : Nat) : Int)) (by rw [i64w _ (by omega) (by omega)]; omega)) ?_
        refine WL.ex rfl rfl rfl (Ex.asg rfl) ?_
        refine WL.nil ?_
        refine WX.next (?_)
        refine WC.draw (Keep nof w21.drew) [12] (.one 0 0 (.one 1 0 (.one 2 0 (.one 4 0 (.one 5 0 (.one 6 0 (.one 7 0 (.one 8 0 (.one 9 0 (.one 3 1 (.one 10 0 (.one 11 0 (.one 12 2 .nil))))))))))))) mixed (by kernel_rfl) (by kernel_rfl) (by kernel_rfl) (HQ.block (HQ.then_ (HQ.then_ (HQ.block (HQ.then_ HQ.body))))) ?_
        obtain ⟨w31, hw31⟩ : ∃ v, v = w21.drew := ⟨_, rfl⟩
        have D31 : Keep nof w21 w31 := by rw [hw31]; exact Keep.drew _ _
        have M31 := M21.step D31
        rw [← hw31]; clear hw31
        refine WP.p rfl rfl rfl rfl (fun _ => Ex.mv rfl) ?_
        refine WP.p rfl rfl rfl rfl (fun _ => Ex.quo rfl rfl (by decide) (c := (((31 - i) / 8 : Nat) : Int)) (by rw [IntWalk.i64_quo _ _ (by omega)]; omega)) ?_
        refine WP.p rfl rfl rfl rfl (fun _ => Ex.iaA Tryd.underlying55 sz53 rfl rfl ⟨by omega, by omega⟩) ?_
        refine WP.p rfl rfl rfl rfl (fun _ => Ex.mv rfl) ?_
        refine WP.p rfl rfl rfl rfl (fun _ => Ex.cvI Tryd.underlying5 Tryd.underlying53 rfl (u64w_lt _ (by omega))) ?_
        refine WP.p rfl rfl rfl rfl (fun _ => Ex.mv rfl) ?_
        refine WP.p rfl rfl rfl rfl (fun _ => Ex.rem rfl rfl (by decide) (c := (((31 - i) % 8 : Nat) : Int)) (remN _ 8)) ?_
        refine WP.p rfl rfl rfl rfl (fun _ => Ex.mul rfl rfl (c := ((8 * ((31 - i) % 8) : Nat) : Int)) (by rw [i64w _ (by omega) (by omega)]; omega)) ?_
        refine WP.p rfl rfl rfl rfl (fun _ => Ex.shl rfl rfl (m := 8 * ((31 - i) % 8)) rfl (shlN b.toNat _ (by omega) (shl_lt b _ (by omega)))) ?_
        refine WP.q (Keep.refl _ _) rfl rfl rfl rfl (fun w' hS => Ex.load ty53 rfl (hS.cell (M31.cell (i := 0) (v := .int .u64 ((lim (chunk l i ((31 - i) / 8)) : Nat) : Int)) rfl (by have := intV_get (a := limbs l i) (i := (31 - i) / 8) (by simp [limbs]; omega); rw [limbs_get l i (by omega)] at this; simpa only [Nat.zero_add, Nat.mul_one, Int.toNat_natCast] using this)) (fun f => f))) ?_
        refine WP.p rfl rfl rfl rfl (fun _ => Ex.bor rfl rfl (orN _ _ hli (shl_lt b _ (by omega)) rfl)) ?_
        refine WP.p rfl rfl rfl rfl (fun _ => Ex.iaA Tryd.underlying55 sz53 rfl rfl ⟨by omega, by omega⟩) ?_
        refine WP.a0 rfl rfl rfl (Ac.st M31 ty53 rfl rfl rfl (i := 0) rfl (by simp [limbs]; omega)) ?_; rintro v44 w44 ⟨K44, M44⟩; refine .inl ⟨rfl, Keep nof w44, ?_⟩
        try dsimp only [List.set] at M44
        simp only [Int.toNat_natCast, Nat.mul_one, Nat.zero_add] at M44
        rw [intV_set, hls] at M44
        refine WP.nil ?_
        refine WX.normal_block (WX.next (?_))
        refine WC.region ?_
        refine WL.ex rfl rfl rfl (Ex.add rfl rfl (i64w _ (by omega) (by omega))) ?_
        refine WL.ex rfl rfl rfl (Ex.mv rfl) ?_
        refine WL.nil ?_
        refine WX.again (i + 1) ?_ ?_ (.cons rfl (.cons rfl (.cons rfl (.cons rfl (.cons rfl (.cons rfl (.nil)))))))
        · (try dsimp only); omega
        · exact ⟨by omega, M44⟩
      · obtain rfl : i = 32 := by omega
        rw [limbs_full hl] at M21
        refine WC.exit ?_
        refine WX.exit_then (WX.exit_then (WX.exit_block (WX.next (?_))))
        refine WC.seq ?_
        refine WC.region ?_
        refine WL.ex rfl rfl rfl (Ex.loadA ty55 rfl (l := intV (ofB l)) (by simp [ofB]) (M21.rdw (i := 0) rfl)) ?_
        refine WL.ac0 rfl rfl (Ac.stA M21 ty55 rfl rfl (vs := intV (ofB l)) rfl (by simp [ofB]) (intV_one _) (i := 1) rfl (by simp [ofB])) ?_; rintro v48 w48 ⟨K48, M48⟩
        try dsimp only [List.set] at M48
        rw [splice_all _ _ (by simp [ofB])] at M48
        refine WL.ex rfl rfl rfl (Ex.asg rfl) ?_
        refine WL.nil ?_
        refine WX.next (?_)
        refine WC.ret ?_
        refine WX.retn rfl (.cell rfl (run_loadVarA ty55 (by first | rfl | simp [ofB]) (M48.rdw (i := 1) rfl)) (.tmp rfl .nil)) rfl ?_
        first
          | exact ⟨by rw [if_neg (show ¬ l.length = 32 by omega), if_pos (show l.length < 32 by omega)], M48.keep⟩
          | exact ⟨by rw [if_neg (show ¬ l.length = 32 by omega), if_neg (show ¬ l.length < 32 by omega), if_pos (show 32 < l.length by omega)], M48.keep⟩
          | exact ⟨by rw [if_pos hl, if_neg (show ¬ l.length < 32 by omega), if_neg (show ¬ 32 < l.length by omega)], M48.keep⟩

/-- A reader at block g: what is left, and the first error. -/
abbrev rdR (g : Nat) (D : List Nat) (s : RS) : Res := rbx g 95 D s.1 (.int .i64 s.2)

/-- What a number is read as. -/
def rInt (o : List UInt8) : List Nat := if o.length = 32 then ofB o else [0, 0, 0, 0]
theorem rInt_len (o : List UInt8) : (rInt o).length = 4 := by unfold rInt; split <;> simp [ofB]
theorem rInt_ok4 (o : List UInt8) : Int4 (rInt o) := by
  unfold rInt
  split
  · rename_i h; exact ofB_ok h
  · refine ⟨rfl, fun i => ?_⟩
    match i with
    | 0 => decide
    | 1 => decide
    | 2 => decide
    | 3 => decide
    | _ + 4 => simp

/- (*sponsion/pack.Reader).Fail -/
theorem rFail_ok (w : World) (g : Nat) (D : List Nat) (l : List UInt8) (e : Int) (x : Int) (h : (rdR g D (l, e)).sat w) :
    Gives Tryd.prog 67 #[.pointer (some ⟨g, 0, none⟩), .int .i64 x] w fun u w1 => Turn w w1 (rdR g D (l, e)) (rdR g D (rFail (l, e) x)) := by
  have M0 := Mem.begin h
  obtain ⟨A, c, hc, M0⟩ := M0.openR
  dsimp only at hc M0
  refine Gives.enter (n := 20) Tryd.func67 rfl Tryd.ntmps67 rfl (env := [(0, .pointer (some ⟨g, 0, none⟩)), (1, .int .i64 x)]) rfl ?_
  refine WC.seq ?_
  refine WC.region ?_
  refine WL.ex rfl rfl rfl (Ex.mv rfl) ?_
  refine WL.ex rfl rfl rfl (Ex.nilc rfl) ?_
  refine WL.ex rfl rfl rfl (Ex.fa fl95_1 rfl) ?_
  refine WL.ex rfl rfl rfl (Ex.load ty61 rfl (M0.cell (i := 0) rfl rfl)) ?_
  refine WL.ex rfl rfl rfl (Ex.eqI rfl rfl) ?_
  by_cases he : e = 0
  · rw [decide_eq_true he]
    refine WL.ex rfl rfl rfl (Ex.mv rfl) ?_
    refine WL.yes rfl rfl rfl rfl ?_
    refine WL.ex rfl rfl rfl (Ex.mv rfl) ?_
    refine WL.yes rfl rfl rfl rfl ?_
    refine WL.ex rfl rfl rfl (Ex.neI rfl rfl) ?_
    refine WL.ex rfl rfl rfl (Ex.pickT rfl rfl) ?_
    refine WL.nil ?_
    refine WX.next (?_)
    refine WC.cond rfl (fun hx => ?_) (fun hx => ?_)
    · have hx0 : x ≠ 0 := by simpa using hx
      refine WC.region ?_
      refine WL.ex rfl rfl rfl (Ex.mv rfl) ?_
      refine WL.ex rfl rfl rfl (Ex.mv rfl) ?_
      refine WL.ex rfl rfl rfl (Ex.mv rfl) ?_
      refine WL.ex rfl rfl rfl (Ex.nilc rfl) ?_
      refine WL.ex rfl rfl rfl (Ex.fa fl95_0 rfl) ?_
      refine WL.ac0 rfl rfl (Ac.st M0 ty22 rfl rfl rfl (i := 0) rfl (by simp)) ?_; rintro v15 w15 ⟨K15, M15⟩
      try dsimp only [List.set] at M15
      refine WL.ex rfl rfl rfl (Ex.nilc rfl) ?_
      refine WL.ex rfl rfl rfl (Ex.fa fl95_1 rfl) ?_
      refine WL.ac0 rfl rfl (Ac.st M15 ty61 rfl rfl rfl (i := 0) rfl (by simp)) ?_; rintro v18 w18 ⟨K18, M18⟩
      try dsimp only [List.set] at M18
      refine WL.nil ?_
      refine WX.end0 rfl ?_
      have er : rFail (l, e) x = ([], x) := by simp [rFail, he, hx0]
      rw [er]
      have Mv := M18.view (i := 1) rfl (r' := dat D none []) (fun h => ⟨Rd.nil _ _, (fun a ha => by cases ha), h.2.2⟩) (fun b hb => hb)
      exact (Mem.closeR (l := []) (c := 0) Mv (by simp)).toTurn
    · have hx0 : x = 0 := by simpa using hx
      refine WC.skip ?_
      refine WX.end0 rfl ?_
      have er : rFail (l, e) x = (l, e) := by simp [rFail, hx0]
      rw [er]
      exact (M0.closeR hc).toTurn
  · rw [decide_eq_false he]
    refine WL.ex rfl rfl rfl (Ex.mv rfl) ?_
    refine WL.no rfl rfl rfl rfl rfl rfl ?_
    refine WL.no rfl rfl rfl rfl rfl rfl ?_
    refine WL.ex rfl rfl rfl (Ex.pickF rfl rfl) ?_
    refine WL.nil ?_
    refine WX.next (?_)
    refine WC.no rfl ?_
    refine WC.skip ?_
    refine WX.end0 rfl ?_
    have er : rFail (l, e) x = (l, e) := by simp [rFail, he]
    rw [er]
    exact (M0.closeR hc).toTurn

/- (*sponsion/pack.Reader).take -/
theorem rTake_ok (w : World) (g : Nat) (D : List Nat) (l : List UInt8) (e : Int) (n : Nat) (h : (rdR g D (l, e)).sat w) :
    Gives Tryd.prog 72 #[.pointer (some ⟨g, 0, none⟩), .int .i64 (n : Int)] w fun u w1 => (∃ A c, u = .slice A (rTake (l, e) n).1.length c ∧ Rd w1 A (bytesV (rTake (l, e) n).1)) ∧ Turn w w1 (rdR g D (l, e)) (rdR g D (rTake (l, e) n).2) := by
  have M0 := Mem.begin h
  obtain ⟨A, c, hc, M0⟩ := M0.openR
  dsimp only at hc M0
  refine Gives.enter (n := 31) Tryd.func72 rfl Tryd.ntmps72 rfl (env := [(0, .pointer (some ⟨g, 0, none⟩)), (1, .int .i64 (n : Int))]) rfl ?_
  refine WC.seq ?_
  refine WC.region ?_
  refine WL.ex rfl rfl rfl (Ex.asg rfl) ?_
  refine WL.nil ?_
  refine WX.next (?_)
  refine WC.seq ?_
  refine WC.seq ?_
  refine WC.region ?_
  refine WL.ex rfl rfl rfl (Ex.mv rfl) ?_
  refine WL.ex rfl rfl rfl (Ex.mv rfl) ?_
  refine WL.ex rfl rfl rfl (Ex.nilc rfl) ?_
  refine WL.ex rfl rfl rfl (Ex.fa fl95_0 rfl) ?_
  refine WL.ex rfl rfl rfl (Ex.load ty22 rfl (M0.cell (i := 0) rfl rfl)) ?_
  refine WL.ex rfl rfl rfl (Ex.len Tryd.underlying22 rfl) ?_
  refine WL.ex rfl rfl rfl (Ex.gtr rfl rfl) ?_
  refine WL.nil ?_
  refine WX.next (?_)
  refine WC.cond_dec rfl (fun hn => ?_) (fun hn => ?_)
  · skip
    refine WC.seq ?_
    refine WC.region ?_
    refine WL.ex rfl rfl rfl (Ex.mv rfl) ?_
    have MC := M0.closeR hc
    refine WL.ac rfl rfl rfl (Ac.call rfl Tryd.func67 nm67 rfl (rFail_ok w _ _ _ _ 4 (MC.get (i := 0) rfl))) ?_; rintro v10 w10 T10
    have M10 := MC.turned (i := 0) rfl T10
    try dsimp only [List.set] at M10
    refine WL.nil ?_
    refine WX.next (?_)
    refine WC.seq ?_
    refine WC.region ?_
    refine WL.ex rfl rfl rfl (Ex.asg rfl) ?_
    refine WL.nil ?_
    refine WX.next (?_)
    refine WC.ret ?_
    refine WX.ret_then (?_)
    refine WX.ret1 rfl rfl ?_
    have er : rTake (l, e) n = ([], rFail (l, e) 4) := by simp [rTake]; omega
    rw [er]
    exact ⟨⟨none, 0, rfl, Rd.nil _ _⟩, M10.toTurn⟩
  · skip
    refine WC.skip ?_
    refine WX.next (?_)
    refine WC.seq ?_
    refine WC.region ?_
    refine WL.ex rfl rfl rfl (Ex.mv rfl) ?_
    refine WL.ex rfl rfl rfl (Ex.nilc rfl) ?_
    refine WL.ex rfl rfl rfl (Ex.fa fl95_0 rfl) ?_
    refine WL.ex rfl rfl rfl (Ex.load ty22 rfl (M0.cell (i := 0) rfl rfl)) ?_
    refine WL.ex rfl rfl rfl (Ex.mv rfl) ?_
    refine WL.ex rfl rfl rfl (Ex.slh (A := A) (l := l.length) (c := c) Tryd.underlying22 sz5 rfl rfl (by omega) (by omega)) ?_
    refine WL.ex rfl rfl rfl (Ex.asg rfl) ?_
    refine WL.nil ?_
    refine WX.next (?_)
    refine WC.seq ?_
    refine WC.region ?_
    refine WL.ex rfl rfl rfl (Ex.mv rfl) ?_
    refine WL.ex rfl rfl rfl (Ex.mv rfl) ?_
    refine WL.ex rfl rfl rfl (Ex.nilc rfl) ?_
    refine WL.ex rfl rfl rfl (Ex.fa fl95_0 rfl) ?_
    refine WL.ex rfl rfl rfl (Ex.load ty22 rfl (M0.cell (i := 0) rfl rfl)) ?_
    refine WL.ex rfl rfl rfl (Ex.mv rfl) ?_
    refine WL.ex rfl rfl rfl (Ex.sll (A := A) (l := l.length) (c := c) Tryd.underlying22 sz5 rfl rfl (by omega) (by omega)) ?_
    refine WL.ex rfl rfl rfl (Ex.nilc rfl) ?_
    refine WL.ex rfl rfl rfl (Ex.fa fl95_0 rfl) ?_
    refine WL.ac0 rfl rfl (Ac.st M0 ty22 rfl rfl rfl (i := 0) rfl (by simp)) ?_; rintro v28 w28 ⟨K28, M28⟩
    try dsimp only [List.set] at M28
    try simp only [Int.toNat_natCast] at M28
    refine WL.nil ?_
    refine WX.next (?_)
    refine WC.seq ?_
    refine WC.region ?_
    refine WL.ex rfl rfl rfl (Ex.mv rfl) ?_
    refine WL.ex rfl rfl rfl (Ex.asg rfl) ?_
    refine WL.nil ?_
    refine WX.next (?_)
    refine WC.ret ?_
    refine WX.ret1 rfl rfl ?_
    have er : rTake (l, e) n = (l.take n, (l.drop n, e)) := by simp [rTake]; omega
    rw [er]
    have hd : (dat D A l).sat w28 := M28.get (i := 1) rfl
    have Mv := M28.view (i := 1) rfl (r' := dat D (if c = n then A else A.map (·.add (n * 1))) (l.drop n)) (fun h => ⟨by
        have h1 := h.1.cut (k := n) (m := c) (sz := 1) (fun e => by simp; omega)
        have e2 : (bytesV l).drop (n * 1) = bytesV (l.drop n) := by simp [bytesV]
        rwa [e2] at h1, fun a ha hne => by
        have hl : l ≠ [] := fun e => hne (by rw [e]; simp)
        split at ha
        · exact h.2.1 a ha hl
        · cases hA : A with
          | none => rw [hA] at ha; cases ha
          | some a0 =>
            rw [hA] at ha
            obtain rfl := Option.some.inj ha
            rw [block_add]
            exact h.2.1 a0 hA hl, h.2.2⟩) (fun b hb => hb)
    try dsimp only [List.set] at Mv
    have hlen : (l.take n).length = n := by simp; omega
    have e3 : (bytesV l).take n = bytesV (l.take n) := by simp [bytesV]
    refine ⟨⟨A, c, by rw [hlen]; simp, by rw [← e3]; exact hd.1.take n⟩, ?_⟩
    have e4 : l.length - n = (l.drop n).length := by simp
    rw [e4] at Mv
    exact (Mem.closeR Mv (by simp; omega)).toTurn

/- (*sponsion/pack.Reader).num -/
theorem rNum_ok (w : World) (g : Nat) (D : List Nat) (l : List UInt8) (e : Int) (n : Nat) (hn : n ≤ 8) (h : (rdR g D (l, e)).sat w) :
    Gives Tryd.prog 70 #[.pointer (some ⟨g, 0, none⟩), .int .i64 (n : Int)] w fun u w1 => u = .int .u64 (beVal (rTake (l, e) n).1 : Int) ∧ Turn w w1 (rdR g D (l, e)) (rdR g D (rTake (l, e) n).2) := by
  have M0 := Mem.begin h
  refine Gives.enter (n := 23) Tryd.func70 rfl Tryd.ntmps70 rfl (env := [(0, .pointer (some ⟨g, 0, none⟩)), (1, .int .i64 (n : Int))]) rfl ?_
  refine WC.seq ?_
  refine WC.region ?_
  refine WL.ex rfl rfl rfl (Ex.asg rfl) ?_
  refine WL.nil ?_
  refine WX.next (?_)
  refine WC.seq ?_
  refine WC.region ?_
  refine WL.ex rfl rfl rfl (Ex.asg rfl) ?_
  refine WL.nil ?_
  refine WX.next (?_)
  refine WC.seq ?_
  refine WC.seq ?_
  refine WC.region ?_
  refine WL.ex rfl rfl rfl (Ex.mv rfl) ?_
  refine WL.ex rfl rfl rfl (Ex.mv rfl) ?_
  refine WL.ac rfl rfl rfl (Ac.call rfl Tryd.func72 nm72 rfl (rTake_ok w _ _ _ _ n (M0.get (i := 0) rfl))) ?_; rintro v5 w5 ⟨⟨A, c, rfl, hR⟩, T5⟩
  have M5 := M0.turned (i := 0) rfl T5
  try dsimp only [List.set] at M5
  obtain ⟨o, ho⟩ : ∃ o, o = (rTake (l, e) n).1 := ⟨_, rfl⟩
  have hol : o.length ≤ n := by rw [ho]; exact rTake_len _ _
  rw [← ho] at hR ⊢
  refine WL.ex rfl rfl rfl (Ex.len Tryd.underlying22 rfl) ?_
  refine WL.ex rfl rfl rfl (Ex.mv rfl) ?_
  refine WL.nil ?_
  refine WX.next (?_)
  refine WC.block ?_
  refine WC.loop (σ := Nat) (fun i => [(5, .int .u64 ((beVal (o.take i) : Nat) : Int)), (10, .slice A o.length c), (11, .int .i64 (o.length : Int)), (12, .int .i64 (i : Int))]) (fun i wr => i ≤ o.length ∧ wr = w5) (fun i => o.length - i) (0) ?_ (.cons rfl (.cons rfl (.cons rfl (.cons rfl (.nil))))) ?_
  · exact ⟨by omega, rfl⟩
  rintro i _ ⟨hi, rfl⟩
  refine WC.seq ?_
  refine WC.region ?_
  refine WL.ex rfl rfl rfl (Ex.lss rfl rfl) ?_
  refine WL.nil ?_
  refine WX.next (?_)
  refine WC.seq ?_
  refine WC.cond_dec rfl (fun hc13 => ?_) (fun hc13 => ?_)
  · obtain ⟨b, hb⟩ : ∃ b, o[i]? = some b := ⟨_, List.getElem?_eq_getElem (by omega)⟩
    have hb8 := b.toNat_lt
    have hv : beVal (o.take i) < 256 ^ 7 := beVal_lt_of (by simp; omega)
    obtain ⟨b1, o1, hA, _⟩ := hR.plain (by simp; omega)
    subst hA
    refine WC.skip ?_
    refine WX.next (?_)
    refine WC.seq ?_
    refine WC.block ?_
    refine WC.seq ?_
    refine WC.region ?_
    refine WL.ex rfl rfl rfl (Ex.ia Tryd.underlying22 sz5 rfl rfl ⟨by omega, by omega⟩) ?_
    refine WL.ex rfl rfl rfl (Ex.load ty5 rfl (Rd.at1 (u := byteV b) hR (j := (i : Int).toNat * 1) (by simp [bytesV_get hb]))) ?_
    refine WL.ex rfl rfl rfl (Ex.asg rfl) ?_
    refine WL.nil ?_
    refine WX.next (?_)
    refine WC.region ?_
    refine WL.ex rfl rfl rfl (Ex.mv rfl) ?_
    refine WL.ex rfl rfl rfl (Ex.shl rfl rfl (m := 8) rfl (shlN (beVal (o.take i)) 8 (by omega) (by omega))) ?_
    refine WL.ex rfl rfl rfl (Ex.mv rfl) ?_
    refine WL.ex rfl rfl rfl (Ex.cvI Tryd.underlying5 Tryd.underlying53 rfl (u64w_lt _ (by omega))) ?_
    refine WL.ex rfl rfl rfl (Ex.bor rfl rfl (c := ((beVal (o.take (i + 1)) : Nat) : Int)) (orN (beVal (o.take i) * 2 ^ 8) b.toNat (by omega) (by omega) (by rw [or_add hb8, take_snoc hb, beVal_snoc]))) ?_
    refine WL.ex rfl rfl rfl (Ex.asg rfl) ?_
    refine WL.nil ?_
    refine WX.normal_block (WX.next (?_))
    refine WC.region ?_
    refine WL.ex rfl rfl rfl (Ex.add rfl rfl (i64w _ (by omega) (by omega))) ?_
    refine WL.ex rfl rfl rfl (Ex.mv rfl) ?_
    refine WL.nil ?_
    refine WX.again (i + 1) ?_ ?_ (.cons rfl (.cons rfl (.cons rfl (.cons rfl (.nil)))))
    · (try dsimp only); omega
    · exact ⟨by omega, rfl⟩
  · obtain rfl : i = o.length := by omega
    refine WC.exit ?_
    refine WX.exit_then (WX.exit_then (WX.exit_block (WX.next (?_))))
    refine WC.seq ?_
    refine WC.region ?_
    refine WL.ex rfl rfl rfl (Ex.mv rfl) ?_
    refine WL.ex rfl rfl rfl (Ex.asg rfl) ?_
    refine WL.nil ?_
    refine WX.next (?_)
    refine WC.ret ?_
    refine WX.ret1 rfl rfl ?_
    rw [List.take_length, ho]
    exact ⟨rfl, T5⟩

/- (*sponsion/pack.Reader).U8 -/
theorem rU8_ok (w : World) (g : Nat) (D : List Nat) (l : List UInt8) (e : Int) (h : (rdR g D (l, e)).sat w) :
    Gives Tryd.prog 64 #[.pointer (some ⟨g, 0, none⟩)] w fun u w1 => u = .int .u8 (beVal (rTake (l, e) 1).1 : Int) ∧ Turn w w1 (rdR g D (l, e)) (rdR g D (rTake (l, e) 1).2) := by
  have M0 := Mem.begin h
  refine Gives.enter (n := 6) Tryd.func64 rfl Tryd.ntmps64 rfl (env := [(0, .pointer (some ⟨g, 0, none⟩))]) rfl ?_
  refine WC.seq ?_
  refine WC.region ?_
  refine WL.ex rfl rfl rfl (Ex.asg rfl) ?_
  refine WL.nil ?_
  refine WX.next (?_)
  refine WC.seq ?_
  refine WC.region ?_
  refine WL.ex rfl rfl rfl (Ex.mv rfl) ?_
  refine WL.ac rfl rfl rfl (Ac.call rfl Tryd.func70 nm70 rfl (rNum_ok w _ _ _ _ 1 (by decide) (M0.get (i := 0) rfl))) ?_; rintro v3 w3 ⟨rfl, T3⟩
  refine WL.ex rfl rfl rfl (Ex.cvI Tryd.underlying53 Tryd.underlying5 rfl (u8w_lt _ (beVal_lt_of (rTake_len _ _)))) ?_
  refine WL.ex rfl rfl rfl (Ex.asg rfl) ?_
  refine WL.nil ?_
  refine WX.next (?_)
  refine WC.ret ?_
  refine WX.ret1 rfl rfl ?_
  exact ⟨rfl, T3⟩

/- (*sponsion/pack.Reader).U32 -/
theorem rU32_ok (w : World) (g : Nat) (D : List Nat) (l : List UInt8) (e : Int) (h : (rdR g D (l, e)).sat w) :
    Gives Tryd.prog 63 #[.pointer (some ⟨g, 0, none⟩)] w fun u w1 => u = .int .u32 (beVal (rTake (l, e) 4).1 : Int) ∧ Turn w w1 (rdR g D (l, e)) (rdR g D (rTake (l, e) 4).2) := by
  have M0 := Mem.begin h
  refine Gives.enter (n := 6) Tryd.func63 rfl Tryd.ntmps63 rfl (env := [(0, .pointer (some ⟨g, 0, none⟩))]) rfl ?_
  refine WC.seq ?_
  refine WC.region ?_
  refine WL.ex rfl rfl rfl (Ex.asg rfl) ?_
  refine WL.nil ?_
  refine WX.next (?_)
  refine WC.seq ?_
  refine WC.region ?_
  refine WL.ex rfl rfl rfl (Ex.mv rfl) ?_
  refine WL.ac rfl rfl rfl (Ac.call rfl Tryd.func70 nm70 rfl (rNum_ok w _ _ _ _ 4 (by decide) (M0.get (i := 0) rfl))) ?_; rintro v3 w3 ⟨rfl, T3⟩
  refine WL.ex rfl rfl rfl (Ex.cvI Tryd.underlying53 Tryd.underlying52 rfl (u32w_lt _ (beVal_lt_of (rTake_len _ _)))) ?_
  refine WL.ex rfl rfl rfl (Ex.asg rfl) ?_
  refine WL.nil ?_
  refine WX.next (?_)
  refine WC.ret ?_
  refine WX.ret1 rfl rfl ?_
  exact ⟨rfl, T3⟩

/- (*sponsion/pack.Reader).Int -/
theorem rInt_ok (w : World) (g : Nat) (D : List Nat) (l : List UInt8) (e : Int) (h : (rdR g D (l, e)).sat w) :
    Gives Tryd.prog 65 #[.pointer (some ⟨g, 0, none⟩)] w fun u w1 => u = .agg (intV (rInt (rTake (l, e) 32).1)).toArray ∧ Turn w w1 (rdR g D (l, e)) (rdR g D (rTake (l, e) 32).2) := by
  have M0 := Mem.begin h
  refine Gives.enter (n := 12) Tryd.func65 rfl Tryd.ntmps65 rfl (env := [(0, .pointer (some ⟨g, 0, none⟩))]) rfl ?_
  refine WC.seq ?_
  refine WC.region ?_
  refine WL.ac rfl rfl rfl (Ac.alloc M0 (l := intV [0, 0, 0, 0]) (by kernel_rfl)) ?_; rintro v1 w1 ⟨g1, rfl, hg1, K1, M1⟩
  refine WL.nil ?_
  refine WX.next (?_)
  refine WC.seq ?_
  refine WC.region ?_
  refine WL.ex rfl rfl rfl (Ex.mv rfl) ?_
  refine WL.ac rfl rfl rfl (Ac.call rfl Tryd.func72 nm72 rfl (rTake_ok w1 _ _ _ _ 32 (M1.get (i := 1) rfl))) ?_; rintro v3 w3 ⟨⟨A, c, rfl, hR⟩, T3⟩
  have M3 := M1.turned (i := 1) rfl T3
  try dsimp only [List.set] at M3
  refine WL.ac rfl rfl rfl (Ac.call rfl Tryd.func71 nm71 rfl (hRead_ok w3 _ _ _ hR)) ?_; rintro v4 w4 ⟨rfl, K4⟩
  have M4 := M3.step K4
  refine WL.ex rfl rfl rfl (Ex.mv rfl) ?_
  refine WL.ex rfl rfl rfl (Ex.ext rfl rfl) ?_
  refine WL.ex rfl rfl rfl (Ex.ext rfl rfl) ?_
  refine WL.ac rfl rfl rfl (Ac.alloc M4 (l := intV [0, 0, 0, 0]) (by kernel_rfl)) ?_; rintro v8 w8 ⟨g2, rfl, hg8, K8, M8⟩
  refine WL.ac0 rfl rfl (Ac.stA M8 ty55 rfl rfl (vs := intV (rInt (rTake (l, e) 32).1)) rfl (by simp [rInt_len]) (intV_one _) (i := 0) rfl (by simp [rInt_len])) ?_; rintro v9 w9 ⟨K9, M9⟩
  try dsimp only [List.set] at M9
  rw [splice_all _ _ (by simp [rInt_len])] at M9
  refine WL.ex rfl rfl rfl (Ex.asg rfl) ?_
  refine WL.nil ?_
  refine WX.next (?_)
  refine WC.seq ?_
  refine WC.region ?_
  refine WL.ex rfl rfl rfl (Ex.loadA ty55 rfl (l := intV (rInt (rTake (l, e) 32).1)) (by simp [rInt_len]) (M9.rdw (i := 0) rfl)) ?_
  refine WL.ac0 rfl rfl (Ac.stA M9 ty55 rfl rfl (vs := intV (rInt (rTake (l, e) 32).1)) rfl (by simp [rInt_len]) (intV_one _) (i := 1) rfl (by simp [rInt_len])) ?_; rintro v12 w12 ⟨K12, M12⟩
  try dsimp only [List.set] at M12
  rw [splice_all _ _ (by simp [rInt_len])] at M12
  refine WL.nil ?_
  refine WX.next (?_)
  refine WC.ret ?_
  refine WX.retc rfl rfl (run_loadVarA ty55 (by simp [rInt_len]) (M12.rdw (i := 1) rfl)) ?_
  exact ⟨rfl, (Mem.sub M12 (.cons _ (.cons _ (.refl _)))).toTurn⟩

/- (*sponsion/pack.Reader).Err -/
theorem rErr_ok (w : World) (g : Nat) (D : List Nat) (l : List UInt8) (e : Int) (h : (rdR g D (l, e)).sat w) :
    Gives Tryd.prog 66 #[.pointer (some ⟨g, 0, none⟩)] w fun u w1 => u = .int .i64 e ∧ w1 = w := by
  have M0 := Mem.begin h
  obtain ⟨A, c, hc, M0⟩ := M0.openR
  dsimp only at hc M0
  refine Gives.enter (n := 7) Tryd.func66 rfl Tryd.ntmps66 rfl (env := [(0, .pointer (some ⟨g, 0, none⟩))]) rfl ?_
  refine WC.seq ?_
  refine WC.region ?_
  refine WL.ex rfl rfl rfl (Ex.asg rfl) ?_
  refine WL.nil ?_
  refine WX.next (?_)
  refine WC.seq ?_
  refine WC.region ?_
  refine WL.ex rfl rfl rfl (Ex.mv rfl) ?_
  refine WL.ex rfl rfl rfl (Ex.nilc rfl) ?_
  refine WL.ex rfl rfl rfl (Ex.fa fl95_1 rfl) ?_
  refine WL.ex rfl rfl rfl (Ex.load ty61 rfl (M0.cell (i := 0) rfl rfl)) ?_
  refine WL.ex rfl rfl rfl (Ex.asg rfl) ?_
  refine WL.nil ?_
  refine WX.next (?_)
  refine WC.ret ?_
  refine WX.ret1 rfl rfl ?_
  exact ⟨rfl, rfl⟩

/- (*sponsion/pack.Reader).End -/
theorem rEnd_ok (w : World) (g : Nat) (D : List Nat) (l : List UInt8) (e : Int) (h : (rdR g D (l, e)).sat w) :
    Gives Tryd.prog 56 #[.pointer (some ⟨g, 0, none⟩)] w fun u w1 => u = .int .i64 (if e = 0 ∧ l ≠ [] then 5 else e) ∧ w1 = w := by
  have M0 := Mem.begin h
  obtain ⟨A, c, hc, M0⟩ := M0.openR
  dsimp only at hc M0
  refine Gives.enter (n := 20) Tryd.func56 rfl Tryd.ntmps56 rfl (env := [(0, .pointer (some ⟨g, 0, none⟩))]) rfl ?_
  refine WC.seq ?_
  refine WC.region ?_
  refine WL.ex rfl rfl rfl (Ex.asg rfl) ?_
  refine WL.nil ?_
  refine WX.next (?_)
  refine WC.seq ?_
  refine WC.seq ?_
  refine WC.region ?_
  refine WL.ex rfl rfl rfl (Ex.mv rfl) ?_
  refine WL.ex rfl rfl rfl (Ex.nilc rfl) ?_
  refine WL.ex rfl rfl rfl (Ex.fa fl95_1 rfl) ?_
  refine WL.ex rfl rfl rfl (Ex.load ty61 rfl (M0.cell (i := 0) rfl rfl)) ?_
  refine WL.ex rfl rfl rfl (Ex.eqI rfl rfl) ?_
  by_cases he : e = 0
  · rw [decide_eq_true he]
    refine WL.ex rfl rfl rfl (Ex.mv rfl) ?_
    refine WL.yes rfl rfl rfl rfl ?_
    refine WL.ex rfl rfl rfl (Ex.mv rfl) ?_
    refine WL.yes rfl rfl rfl rfl ?_
    refine WL.ex rfl rfl rfl (Ex.nilc rfl) ?_
    refine WL.yes rfl rfl rfl rfl ?_
    refine WL.ex rfl rfl rfl (Ex.fa fl95_0 rfl) ?_
    refine WL.yes rfl rfl rfl rfl ?_
    refine WL.ex rfl rfl rfl (Ex.load ty22 rfl (M0.cell (i := 0) rfl rfl)) ?_
    refine WL.yes rfl rfl rfl rfl ?_
    refine WL.ex rfl rfl rfl (Ex.len Tryd.underlying22 rfl) ?_
    refine WL.yes rfl rfl rfl rfl ?_
    refine WL.ex rfl rfl rfl (Ex.gtr rfl rfl) ?_
    refine WL.ex rfl rfl rfl (Ex.pickT rfl rfl) ?_
    refine WL.nil ?_
    refine WX.next (?_)
    refine WC.cond_dec rfl (fun hl => ?_) (fun hl => ?_)
    · skip
      refine WC.seq ?_
      refine WC.region ?_
      refine WL.ex rfl rfl rfl (Ex.asg rfl) ?_
      refine WL.nil ?_
      refine WX.next (?_)
      refine WC.ret ?_
      refine WX.ret_then (?_)
      refine WX.ret1 rfl rfl ?_
      exact ⟨by rw [if_pos ⟨he, fun h => by simp [h] at hl⟩], rfl⟩
    · skip
      refine WC.skip ?_
      refine WX.next (?_)
      refine WC.seq ?_
      refine WC.region ?_
      refine WL.ex rfl rfl rfl (Ex.mv rfl) ?_
      refine WL.ex rfl rfl rfl (Ex.nilc rfl) ?_
      refine WL.ex rfl rfl rfl (Ex.fa fl95_1 rfl) ?_
      refine WL.ex rfl rfl rfl (Ex.load ty61 rfl (M0.cell (i := 0) rfl rfl)) ?_
      refine WL.ex rfl rfl rfl (Ex.asg rfl) ?_
      refine WL.nil ?_
      refine WX.next (?_)
      refine WC.ret ?_
      refine WX.ret1 rfl rfl ?_
      exact ⟨by rw [if_neg (fun h => hl (by have := List.length_pos_iff.2 h.2; omega))], rfl⟩
  · rw [decide_eq_false he]
    refine WL.ex rfl rfl rfl (Ex.mv rfl) ?_
    refine WL.no rfl rfl rfl rfl rfl rfl ?_
    refine WL.no rfl rfl rfl rfl rfl rfl ?_
    refine WL.no rfl rfl rfl rfl rfl rfl ?_
    refine WL.no rfl rfl rfl rfl rfl rfl ?_
    refine WL.no rfl rfl rfl rfl rfl rfl ?_
    refine WL.no rfl rfl rfl rfl rfl rfl ?_
    refine WL.ex rfl rfl rfl (Ex.pickF rfl rfl) ?_
    refine WL.nil ?_
    refine WX.next (?_)
    refine WC.no rfl ?_
    refine WC.skip ?_
    refine WX.next (?_)
    refine WC.seq ?_
    refine WC.region ?_
    refine WL.ex rfl rfl rfl (Ex.mv rfl) ?_
    refine WL.ex rfl rfl rfl (Ex.nilc rfl) ?_
    refine WL.ex rfl rfl rfl (Ex.fa fl95_1 rfl) ?_
    refine WL.ex rfl rfl rfl (Ex.load ty61 rfl (M0.cell (i := 0) rfl rfl)) ?_
    refine WL.ex rfl rfl rfl (Ex.asg rfl) ?_
    refine WL.nil ?_
    refine WX.next (?_)
    refine WC.ret ?_
    refine WX.ret1 rfl rfl ?_
    exact ⟨by rw [if_neg (fun h => he h.1)], rfl⟩

/- sponsion/pack.Of -/
theorem of_ok (w : World) (A : Option Addr) (c : Nat) (l : List UInt8) (hr : Rd w A (bytesV l)) (hb : l.length ≤ 70368744177664) :
    Gives Tryd.prog 54 #[.slice A l.length c] w fun u w1 => ∃ g D, u = .pointer (some ⟨g, 0, none⟩) ∧ New w w1 (rdR g D (l, 0)) := by
  have M0 := Mem.start w nof
  refine Gives.enter (n := 7) Tryd.func54 rfl Tryd.ntmps54 rfl (env := [(0, .slice A l.length c)]) rfl ?_
  refine WC.seq ?_
  refine WC.region ?_
  refine WL.ex rfl rfl rfl (Ex.asg rfl) ?_
  refine WL.nil ?_
  refine WX.next (?_)
  refine WC.seq ?_
  refine WC.region ?_
  refine WL.ex rfl rfl rfl (Ex.mv rfl) ?_
  refine WL.ac rfl rfl rfl (Ac.call rfl Tryd.func46 nm46 rfl (clone_ok w _ _ _ hr hb)) ?_; rintro v3 w3 N3
  have M3 := M0.new N3
  obtain ⟨B, d, rfl⟩ := own_slice (M3.get (i := 0) rfl)
  have hcd := (dat_of_row (M3.get (i := 0) rfl)).2.2
  replace M3 := M3.view (i := 0) rfl (r' := dat _ B l) (fun h => (dat_of_row h).1) (fun b hb => hb)
  try dsimp only [List.set] at M3
  refine WL.ex rfl rfl rfl (Ex.bld bd95 (parts := [(0, .tmp 4)]) rfl rfl rfl rfl) ?_
  refine WL.ac rfl rfl rfl (Ac.box M3 (l := [.slice B l.length d, .int .i64 0]) rfl rfl) ?_; rintro v5 w5 ⟨g, rfl, hg5, K5, M5⟩
  replace M5 := M5.closeR hcd
  refine WL.ex rfl rfl rfl (Ex.asg rfl) ?_
  refine WL.nil ?_
  refine WX.next (?_)
  refine WC.ret ?_
  refine WX.ret1 rfl rfl ?_
  exact ⟨g, _, rfl, M5.toNew⟩

/-- A thing that is written or read. -/
structure Item where
  k : Nat
  x : Nat
  a : List Nat
  h : List UInt8
  B : SV
  n : Int
  e : Int
def itemC (t : Item) : List Value := [.int .u8 (t.k : Int), .int .u64 (t.x : Int)] ++ intV t.a ++ bytesV t.h ++ [svV t.B, .int .i64 t.n, .int .i64 t.e]
structure ItemOk (t : Item) : Prop where
  k : t.k < 256
  x : t.x < 18446744073709551616
  a : Int4 t.a
  h : t.h.length = 32
  n1 : -9223372036854775808 ≤ t.n
  n2 : t.n ≤ 9223372036854775807
  e1 : -9223372036854775808 ≤ t.e
  e2 : t.e ≤ 9223372036854775807
theorem item_len {t : Item} (h : ItemOk t) : (itemC t).length = 41 := by simp [itemC, h.a.1, h.h]
theorem item_1 (t : Item) : (itemC t)[1]? = some (.int .u64 (t.x : Int)) := rfl
theorem item_2 {t : Item} (h : ItemOk t) : ((itemC t).drop 2).take 4 = intV t.a := by simp [itemC, h.a.1, List.drop_append, List.take_append, List.take_of_length_le]
theorem item_6 {t : Item} (h : ItemOk t) : ((itemC t).drop 6).take 32 = bytesV t.h := by simp [itemC, h.a.1, h.h, List.drop_append, List.take_append, List.take_of_length_le, List.drop_eq_nil_of_le]
theorem item_38 {t : Item} (h : ItemOk t) : (itemC t)[38]? = some (svV t.B) := by simp [itemC, h.a.1, h.h, List.getElem?_append]
theorem item_39 {t : Item} (h : ItemOk t) : (itemC t)[39]? = some (.int .i64 t.n) := by simp [itemC, h.a.1, h.h, List.getElem?_append]
theorem item_40 {t : Item} (h : ItemOk t) : (itemC t)[40]? = some (.int .i64 t.e) := by simp [itemC, h.a.1, h.h, List.getElem?_append]
theorem item_one {t : Item} : ∀ u ∈ itemC t, u.oneCell' = true := by
  intro u hu
  simp only [itemC, List.mem_append, List.mem_cons, List.not_mem_nil, or_false] at hu
  rcases hu with (((rfl | rfl) | hu) | hu) | (rfl | rfl | rfl)
  · rfl
  · rfl
  · exact intV_one _ u hu
  · exact bytesV_one _ u hu
  · rfl
  · rfl
  · rfl
/-- A slice of items that can be read. -/
structure RdI (w : World) (A : Option Addr) (its : List Item) : Prop where
  row : Rd w A (its.flatMap itemC)
  ok : ∀ t ∈ its, ItemOk t
  rd : ∀ t ∈ its, Rd w t.B.A (bytesV t.B.l)
theorem RdI.keep {w w' : World} {A : Option Addr} {its : List Item} (h : RdI w A its) (k : Keep nof w w') : RdI w' A its := ⟨h.row.keep0 k, h.ok, fun t ht => (h.rd t ht).keep0 k⟩
def fewI (its : List Item) : Prop := (∀ t ∈ its, t.B.l.length ≤ 100) ∧ its.length ≤ 30
instance (its : List Item) : Decidable (fewI its) := by unfold fewI; infer_instance
theorem RdI.plain {w : World} {A : Option Addr} {its : List Item} (h : RdI w A its) {i : Nat} {p : Item} (hp : its[i]? = some p) : ∃ b o, A = some ⟨b, o, none⟩ := by
  exact h.row.flat_plain (List.mem_of_getElem? hp) (by rw [item_len (h.ok p (List.mem_of_getElem? hp))]; omega)

theorem rTake_app1 {a b : List UInt8} {e : Int} {n : Nat} (h : a.length = n) : (rTake (a ++ b, e) n).1 = a := by
  subst h
  rw [rTake, if_neg (by simp)]
  simp
theorem rTake_app2 {a b : List UInt8} {e : Int} {n : Nat} (h : a.length = n) : (rTake (a ++ b, e) n).2 = (b, e) := by
  subst h
  rw [rTake, if_neg (by simp)]
  simp
theorem beVal_be' {n x : Nat} (h : x < 256 ^ n) : beVal (be n x) = x := by rw [beVal_be, Nat.mod_eq_of_lt h]
theorem rTake_app {a b : List UInt8} {e : Int} {n : Nat} (h : a.length = n) : rTake (a ++ b, e) n = (a, (b, e)) := by
  subst h
  rw [rTake, if_neg (by simp)]
  simp
/-- The bytes of an item, all things of it. -/
def backB (t : Item) : List UInt8 := be 1 t.k ++ (be 4 (t.x % 4294967296) ++ (be 8 t.x ++ (intB t.a ++ (t.h ++ t.B.l))))
theorem backB_len {t : Item} (h : ItemOk t) : (backB t).length = 77 + t.B.l.length := by simp [backB, h.h]; omega
theorem back_take_len {its : List Item} (h : ∀ t ∈ its, ItemOk t) (hf : fewI its) (i : Nat) : ((its.take i).flatMap backB).length ≤ 177 * i := by
  have key : ∀ l : List Item, (∀ t ∈ l, ItemOk t ∧ t.B.l.length ≤ 100) → (l.flatMap backB).length ≤ 177 * l.length := by
    intro l
    induction l with
    | nil => simp
    | cons a r ih =>
      intro hl
      have h1 := ih fun t ht => hl t (by simp [ht])
      have h2 := hl a (by simp)
      have h3 := backB_len h2.1
      simp only [List.flatMap_cons, List.length_append, List.length_cons]
      omega
  have := key (its.take i) fun t ht => ⟨h t (List.mem_of_mem_take ht), hf.1 t (List.mem_of_mem_take ht)⟩
  have h2 : (its.take i).length ≤ i := by simp; omega
  omega
theorem back_drop_len {its : List Item} (h : ∀ t ∈ its, ItemOk t) (hf : fewI its) (i : Nat) : ((its.drop i).flatMap backB).length ≤ 177 * its.length := by
  have h1 := back_take_len h hf its.length
  rw [List.take_length] at h1
  have h2 : its.flatMap backB = (its.take i).flatMap backB ++ (its.drop i).flatMap backB := by rw [← List.flatMap_append, List.take_append_drop]
  rw [h2, List.length_append] at h1
  omega
theorem back_snoc {its : List Item} {i : Nat} {p : Item} (h : its[i]? = some p) : (its.take (i + 1)).flatMap backB = (its.take i).flatMap backB ++ backB p := by rw [take_snoc h]; simp
theorem back_cons {its : List Item} {i : Nat} {p : Item} (h : its[i]? = some p) : (its.drop i).flatMap backB = backB p ++ (its.drop (i + 1)).flatMap backB := by
  obtain ⟨h1, h2⟩ := List.getElem?_eq_some_iff.1 h
  rw [List.drop_eq_getElem_cons h1, h2]; simp

theorem oks_splitN {w : World} {ks ls : List CK} {vs : List Value} (n : Nat) (h : CK.oks w (ks ++ ls) vs) (hn : ks.length = n) : CK.oks w ks (vs.take n) ∧ CK.oks w ls (vs.drop n) := by
  subst hn
  exact oks_split ks ls vs h
theorem int4_of {a : List Nat} (h : a.length = 4) (hb : ∀ x ∈ a, x < 18446744073709551616) : Int4 a := ⟨h, fun i => by
  rw [List.getD]
  cases hi : a[i]? with
  | none => simp
  | some x => exact hb x (List.mem_of_getElem? hi)⟩
abbrev itemK : List CK := .int .u8 :: .int .u64 :: (rep 4 [.int .u64] ++ (rep 32 [.int .u8] ++ [.sl [.int .u8], .int .i64, .int .i64]))
theorem item_view {w : World} {vs : List Value} (h : CK.oks w itemK vs) : ∃ t, vs = itemC t ∧ (ItemOk t ∧ Rd w t.B.A (bytesV t.B.l)) := by
  obtain ⟨v0, r0, rfl, h0, v1, r1, rfl, h1, h2⟩ := h
  obtain ⟨h3, h4⟩ := oks_splitN 4 h2 rfl
  obtain ⟨h5, h6⟩ := oks_splitN 32 h4 rfl
  obtain ⟨k, hk, rfl⟩ := ok_u8n h0
  obtain ⟨x, hx, rfl⟩ := ok_u64 h1
  obtain ⟨a, ha, hab, e3⟩ := oks_u64s 4 _ h3
  obtain ⟨l, hl, e5⟩ := oks_u8s 32 _ h5
  obtain ⟨v2, r2, e6, h7, v3, r3, rfl, h8, v4, r4, rfl, h9, h10⟩ := h6
  simp only [CK.oks] at h10
  subst h10
  obtain ⟨A, c, b, rfl, _, _, hb⟩ := ok_bytes h7
  obtain ⟨n, hn1, hn2, rfl⟩ := ok_i64 h8
  obtain ⟨e, he1, he2, rfl⟩ := ok_i64 h9
  refine ⟨⟨k, x, a, l, ⟨A, c, b⟩, n, e⟩, ?_, ⟨hk, hx, int4_of ha hab, hl, hn1, hn2, he1, he2⟩, hb⟩
  rw [← List.take_append_drop 4 r1, ← List.take_append_drop 32 (r1.drop 4), e3, e5, e6]
  simp [itemC, svV]
theorem ok_items {w : World} {v : Value} (h : CK.ok w (.sl itemK) v) : ∃ A c, ∃ its : List Item, v = .slice A its.length c ∧ its.length ≤ c ∧ c ≤ maxLen ∧ RdI w A its := by
  obtain ⟨A, c, its, h1, h2, h3, h4, h5⟩ := sl_view h itemC _ (fun vs hv => item_view hv)
  exact ⟨A, c, its, h1, h2, h3, ⟨h4, fun t ht => (h5 t ht).1, fun t ht => (h5 t ht).2⟩⟩

/-- An intent. -/
structure Itt where
  ix : Nat
  tk : Nat
  ow : Nat
  am : List Nat
instance : DecidableEq Itt := fun a b => decidable_of_iff (a.ix = b.ix ∧ a.tk = b.tk ∧ a.ow = b.ow ∧ a.am = b.am) (by cases a; cases b; simp)
def ittC (t : Itt) : List Value := [.int .u32 (t.ix : Int), .int .u8 (t.tk : Int), .int .u8 (t.ow : Int)] ++ intV t.am
structure IttOk (t : Itt) : Prop where
  ix : t.ix < 4294967296
  tk : t.tk < 256
  ow : t.ow < 256
  am : Int4 t.am
def itt0 : Itt := ⟨0, 0, 0, [0, 0, 0, 0]⟩
theorem int4_0 : Int4 [0, 0, 0, 0] := rInt_ok4 []
theorem itt0_ok : IttOk itt0 := ⟨by decide, by decide, by decide, int4_0⟩
def ittB (t : Itt) : List UInt8 := be 4 t.ix ++ (be 1 t.tk ++ (be 1 t.ow ++ intB t.am))
@[simp] theorem ittB_len (t : Itt) : (ittB t).length = 38 := by simp [ittB]
def mayI (t : Itt) : Prop := t.tk ≤ 3 ∧ t.ow ≤ 15 ∧ t.am ≠ [0, 0, 0, 0]
instance (t : Itt) : Decidable (mayI t) := by unfold mayI; infer_instance
theorem itt_len {t : Itt} (h : IttOk t) : (ittC t).length = 7 := by simp [ittC, h.am.1]
theorem itt_3 {t : Itt} (h : IttOk t) : ((ittC t).drop 3).take 4 = intV t.am := by simp [ittC, h.am.1, List.take_of_length_le]
theorem itt_one {t : Itt} : ∀ u ∈ ittC t, u.oneCell' = true := by
  intro u hu
  simp only [ittC, List.mem_append, List.mem_cons, List.not_mem_nil, or_false] at hu
  rcases hu with (rfl | rfl | rfl) | hu
  · rfl
  · rfl
  · rfl
  · exact intV_one _ u hu
theorem ittC_inj {a b : Itt} (h : ittC a = ittC b) : a = b := by
  simp only [ittC, List.cons_append, List.nil_append, List.cons.injEq, Value.int.injEq, true_and] at h
  obtain ⟨h1, h2, h3, h4⟩ := h
  cases a; cases b
  simp only at h1 h2 h3 h4
  rw [Itt.mk.injEq]
  exact ⟨by omega, by omega, by omega, intV_inj h4⟩
theorem oks_u1 {w : World} {k : IntKind} {ks : List CK} {x : Nat} {vs : List Value} (h : (Lit.int k (x : Int)).wf = true) (hr : CK.oks w ks vs) : CK.oks w (.int k :: ks) (.int k (x : Int) :: vs) := ⟨_, _, rfl, ⟨_, rfl, h⟩, hr⟩
theorem wf_u32 {x : Nat} (h : x < 4294967296) : (Lit.int .u32 (x : Int)).wf = true := by simp [Lit.wf, IntKind.min, IntKind.max, IntKind.signed, IntKind.bits]; omega
theorem wf_u8 {x : Nat} (h : x < 256) : (Lit.int .u8 (x : Int)).wf = true := by simp [Lit.wf, IntKind.min, IntKind.max, IntKind.signed, IntKind.bits]; omega
theorem wf_u64 {x : Nat} (h : x < 18446744073709551616) : (Lit.int .u64 (x : Int)).wf = true := by simp [Lit.wf, IntKind.min, IntKind.max, IntKind.signed, IntKind.bits]; omega
theorem oks_int4 {w : World} {a : List Nat} (h : Int4 a) : CK.oks w (rep 4 [.int .u64]) (intV a) := by have := oks_u64 (w := w) a h.mem; rw [h.1] at this; exact this
abbrev ittK : List CK := .int .u32 :: .int .u8 :: .int .u8 :: rep 4 [.int .u64]
theorem oks_itt {w : World} {t : Itt} (h : IttOk t) : CK.oks w ittK (ittC t) := oks_u1 (wf_u32 h.ix) (oks_u1 (wf_u8 h.tk) (oks_u1 (wf_u8 h.ow) (oks_int4 h.am)))
theorem eqItt (w : World) {a b : Itt} (ha : IttOk a) (hb : IttOk b) : EqT Tryd.prog 57 (ittC a) (ittC b) (decide (a = b)) :=
  EqT.to (EqT_of (w := w) (n := 8) (ks := ittK) (by kernel_rfl) rfl (by kernel_rfl) (by decide) (by kernel_rfl) (by kernel_rfl) (by kernel_rfl) (oks_itt ha) (oks_itt hb)) ⟨ittC_inj, fun e => by rw [e]⟩
theorem bldItt {ix tk ow : Nat} {am : List Nat} (h : am.length = 4) :
    okS (fun i => ([(0, 1), (1, 1), (2, 1), (3, 4)] : List (Nat × Nat))[i]?) ([.int .u32 0] ++ [.int .u8 0] ++ [.int .u8 0] ++ (List.replicate 4 (.int .u64 0))) [(0, .int .u32 (ix : Int)), (1, .int .u8 (tk : Int)), (2, .int .u8 (ow : Int)), (3, .agg (intV am).toArray)]
      [[.int .u32 (ix : Int)], [.int .u8 (tk : Int)], [.int .u8 (ow : Int)], intV am] (ittC ⟨ix, tk, ow, am⟩) :=
  ⟨0, 1, rfl, rfl, rfl, by simp, 1, 1, rfl, rfl, rfl, by simp [splice], 2, 1, rfl, rfl, rfl, by simp [splice], 3, 4, rfl, rfl, by simp [h], by simp [splice], by show splice _ _ _ = _; simp [splice, ittC, h]⟩
/-- An intent off its bytes. -/
def ittOf (b : List UInt8) : Itt := ⟨beVal (b.take 4), beVal ((b.drop 4).take 1), beVal ((b.drop 5).take 1), ofB (b.drop 6)⟩
theorem ittOf_ok {b : List UInt8} (h : b.length = 38) : IttOk (ittOf b) :=
  ⟨Nat.lt_of_lt_of_le (beVal_lt_of (n := 4) (by simp; omega)) (by decide), Nat.lt_of_lt_of_le (beVal_lt_of (n := 1) (by simp; omega)) (by decide), Nat.lt_of_lt_of_le (beVal_lt_of (n := 1) (by simp; omega)) (by decide), ofB_ok (by simp; omega)⟩
theorem ittOf_app {A B C D : List UInt8} (hA : A.length = 4) (hB : B.length = 1) (hC : C.length = 1) : ittOf (A ++ (B ++ (C ++ D))) = ⟨beVal A, beVal B, beVal C, ofB D⟩ := by
  have t1 : A.take 4 = A := by rw [← hA, List.take_length]
  have t2 : B.take 1 = B := by rw [← hB, List.take_length]
  have t3 : C.take 1 = C := by rw [← hC, List.take_length]
  simp [ittOf, List.drop_append, List.take_append, hA, hB, hC, t1, t2, t3, List.drop_eq_nil_of_le]
theorem ittOf_B {t : Itt} (h : IttOk t) : ittOf (ittB t) = t := by
  rw [ittB, ittOf_app (by simp) (by simp) (by simp), beVal_be' (by have := h.ix; omega), beVal_be' (by have := h.tk; omega), beVal_be' (by have := h.ow; omega), ofB_intB h.am]
/-- The next intent of what is left. -/
def iGet (s : RS) : Itt × RS := if s.2 = 0 ∧ 38 ≤ s.1.length then (if mayI (ittOf (s.1.take 38)) then (ittOf (s.1.take 38), (s.1.drop 38, 0)) else (itt0, ([], 6))) else (itt0, rFail s 4)
theorem iGet_ok (s : RS) : IttOk (iGet s).1 := by
  unfold iGet
  split
  · split
    · exact ittOf_ok (by simp; omega)
    · exact itt0_ok
  · exact itt0_ok
theorem iGet_inv {s : RS} (h : s.2 ≠ 0 → s.1 = []) : (iGet s).2.2 ≠ 0 → (iGet s).2.1 = [] := by
  unfold iGet
  split
  · split
    · intro h; exact absurd rfl h
    · intro; rfl
  · unfold rFail
    split
    · intro; rfl
    · exact h
/-- The four takes, when there is not enough. -/
theorem takes_short {s : RS} (hi : s.2 ≠ 0 → s.1 = []) (h : ¬ (s.2 = 0 ∧ 38 ≤ s.1.length)) : (rTake (rTake (rTake (rTake s 4).2 1).2 1).2 32).2 = rFail s 4 ∧ (rFail s 4).2 ≠ 0 := by
  obtain ⟨l, e⟩ := s
  by_cases he : e = 0
  · subst he
    simp only [true_and] at h
    have h4 : rFail (l, 0) 4 = ([], 4) := by simp [rFail]
    have h5 : ∀ m : List UInt8, rFail (m, 4) 4 = (m, 4) := fun m => by simp [rFail]
    refine ⟨?_, by rw [h4]; decide⟩
    rw [h4]
    by_cases h1 : l.length < 4
    · simp [rTake, h1, rFail]
    · by_cases h2 : l.length < 5
      · have : l.length - 4 < 1 := by omega
        simp [rTake, h1, this, rFail]
      · by_cases h3 : l.length < 6
        · have e1 : ¬ l.length - 4 < 1 := by omega
          have e2 : l.length - 5 < 1 := by omega
          simp [rTake, h1, e1, e2, rFail]
        · have e1 : ¬ l.length - 4 < 1 := by omega
          have e2 : ¬ l.length - 5 < 1 := by omega
          have e3 : l.length - 6 < 32 := by omega
          simp [rTake, h1, e1, e2, e3, rFail]
  · have hl : l = [] := hi he
    subst hl
    have hf : rFail ([], e) 4 = ([], e) := by simp [rFail, he]
    rw [hf]
    refine ⟨?_, he⟩
    simp [rTake, hf]
theorem split38 {l : List UInt8} (h : 38 ≤ l.length) : ∃ A B C D L : List UInt8, A.length = 4 ∧ B.length = 1 ∧ C.length = 1 ∧ D.length = 32 ∧ l = A ++ (B ++ (C ++ (D ++ L))) := by
  refine ⟨l.take 4, (l.drop 4).take 1, (l.drop 5).take 1, (l.drop 6).take 32, l.drop 38, by simp; omega, by simp; omega, by simp; omega, by simp; omega, ?_⟩
  have e1 : (l.drop 6).take 32 ++ l.drop 38 = l.drop 6 := by have := List.take_append_drop 32 (l.drop 6); rwa [List.drop_drop] at this
  have e2 : (l.drop 5).take 1 ++ l.drop 6 = l.drop 5 := by have := List.take_append_drop 1 (l.drop 5); rwa [List.drop_drop] at this
  have e3 : (l.drop 4).take 1 ++ l.drop 5 = l.drop 4 := by have := List.take_append_drop 1 (l.drop 4); rwa [List.drop_drop] at this
  rw [e1, e2, e3, List.take_append_drop]
theorem take38 {A B C D L : List UInt8} (hA : A.length = 4) (hB : B.length = 1) (hC : C.length = 1) (hD : D.length = 32) : (A ++ (B ++ (C ++ (D ++ L)))).take 38 = A ++ (B ++ (C ++ D)) ∧ (A ++ (B ++ (C ++ (D ++ L)))).drop 38 = L := by
  have e : A ++ (B ++ (C ++ (D ++ L))) = (A ++ (B ++ (C ++ D))) ++ L := by simp
  have hl : (A ++ (B ++ (C ++ D))).length = 38 := by simp [hA, hB, hC, hD]
  rw [e]
  exact ⟨by rw [← hl, List.take_left], by rw [← hl, List.drop_left]⟩

end Go.Proofs.YtfncnpnjhcaphaaDoor
