/- Walks, written by gen.py off the translation's own print: each says what the Go function comes to. -/
import Derived.Test.YtpngjgcbdaogmaaWe
set_option linter.unusedVariables false
set_option linter.unusedSimpArgs false
namespace Go.Proofs.Ytpngjgcbdaogmaa
open Go.Sx Go.RowKit
attribute [local irreducible] Ac Ex WL WC WX WP Gives

/- sponsion/sponsionref04.Take -/
theorem take4_ok (w : World) (l : List UInt8) (e : Int) (n : Nat) (h0 : e ≠ 0 → l = []) :
    Gives Try.prog 28 #[.agg #[str l, .int .i64 e], .int .i64 (n : Int)] w fun u w1 => (∃ ok : Bool, u = .tuple #[rsV (rTake (l, e) n).2, str (rTake (l, e) n).1, .bool ok] ∧ (ok = true ↔ e = 0 ∧ n ≤ l.length)) ∧ Keep nof w w1 := by
  have M0 := Mem.start w nof
  refine Gives.enter (n := 33) Try.func28 rfl Try.ntmps28 rfl (env := [(0, .agg #[str l, .int .i64 e]), (1, .int .i64 (n : Int))]) rfl ?_
  refine WC.seq ?_
  refine WC.region ?_
  refine WL.ac rfl rfl rfl (Ac.box M0 (l := [str l, .int .i64 e]) rfl rfl) ?_; rintro v1 w1 ⟨g1, rfl, hg1, K1, M1⟩
  refine WL.ac rfl rfl rfl (Ac.alloc M1 (l := [str [], .int .i64 0]) (by kernel_rfl)) ?_; rintro v2 w2 ⟨g2, rfl, hg2, K2, M2⟩
  refine WL.ex rfl rfl rfl (Ex.asg rfl) ?_
  refine WL.ex rfl rfl rfl (Ex.asg rfl) ?_
  refine WL.nil ?_
  refine WX.next (?_)
  refine WC.seq ?_
  refine WC.seq ?_
  refine WC.region ?_
  refine WL.ex rfl rfl rfl (Ex.fa fl53_1 rfl) ?_
  refine WL.ex rfl rfl rfl (Ex.load ty3 rfl (M2.cell (i := 1) rfl rfl)) ?_
  refine WL.ex rfl rfl rfl (Ex.neI rfl rfl) ?_
  rcases Decidable.em (e ≠ 0) with he | he
  · rw [decide_eq_false he]
    obtain rfl := h0 he
    refine WL.ex rfl rfl rfl (Ex.mv rfl) ?_
    refine WL.no rfl rfl rfl rfl rfl rfl ?_
    refine WL.no rfl rfl rfl rfl rfl rfl ?_
    refine WL.no rfl rfl rfl rfl rfl rfl ?_
    refine WL.no rfl rfl rfl rfl rfl rfl ?_
    refine WL.no rfl rfl rfl rfl rfl rfl ?_
    refine WL.ex rfl rfl rfl (Ex.pickT rfl rfl) ?_
    refine WL.nil ?_
    refine WX.next (?_)
    refine WC.yes rfl ?_
    refine WC.seq ?_
    refine WC.seq ?_
    refine WC.region ?_
    refine WL.ex rfl rfl rfl (Ex.fa fl53_1 rfl) ?_
    refine WL.ex rfl rfl rfl (Ex.load ty3 rfl (M2.cell (i := 1) rfl rfl)) ?_
    refine WL.ex rfl rfl rfl (Ex.eqI rfl rfl) ?_
    refine WL.nil ?_
    refine WX.next (?_)
    
    refine WC.no (congrArg (fun b => some (Value.bool b)) (decide_eq_false he)) ?_
    refine WC.skip ?_
    refine WX.next (?_)
    refine WC.seq ?_
    refine WC.region ?_
    refine WL.ex rfl rfl rfl (Ex.fa fl53_1 rfl) ?_
    refine WL.ex rfl rfl rfl (Ex.load ty3 rfl (M2.cell (i := 1) rfl rfl)) ?_
    refine WL.ex rfl rfl rfl (Ex.bld bd53 (parts := [(1, .tmp 22)]) rfl rfl rfl rfl) ?_
    refine WL.ac0 rfl rfl (Ac.stA M2 ty53 rfl rfl (vs := [str [], .int .i64 _]) rfl rfl (by simp [str, Value.oneCell']) (i := 0) rfl (by simp)) ?_; rintro v16 w16 ⟨K16, M16⟩
    try dsimp only [List.set] at M16
    rw [splice_all _ _ (by simp)] at M16
    refine WL.ex rfl rfl rfl (Ex.asg rfl) ?_
    refine WL.ex rfl rfl rfl (Ex.asg rfl) ?_
    refine WL.nil ?_
    refine WX.next (?_)
    refine WC.ret ?_
    refine WX.ret_then (?_)
    refine WX.retn rfl (.cell rfl (run_loadVarA ty53 (by first | rfl | (simp; done) | (simp; omega)) (M16.rdw (i := 0) rfl)) (.tmp rfl (.tmp rfl .nil))) rfl ?_
    have er : rTake ([], e) n = ([], ([], e)) := by simp [rTake, rFail, he]
    rw [er]
    exact ⟨⟨false, rfl, by simp [he]⟩, M16.keep⟩
  · have he : e = 0 := by simpa using he
    subst he
    refine WL.ex rfl rfl rfl (Ex.mv rfl) ?_
    refine WL.yes rfl rfl rfl rfl ?_
    refine WL.ex rfl rfl rfl (Ex.mv rfl) ?_
    refine WL.yes rfl rfl rfl rfl ?_
    refine WL.ex rfl rfl rfl (Ex.fa fl53_0 rfl) ?_
    refine WL.yes rfl rfl rfl rfl ?_
    refine WL.ex rfl rfl rfl (Ex.load ty9 rfl (M2.cell (i := 1) rfl rfl)) ?_
    refine WL.yes rfl rfl rfl rfl ?_
    refine WL.ex rfl rfl rfl (Ex.lenS Try.underlying9 rfl) ?_
    refine WL.yes rfl rfl rfl rfl ?_
    refine WL.ex rfl rfl rfl (Ex.gtr rfl rfl) ?_
    refine WL.ex rfl rfl rfl (Ex.pickF rfl rfl) ?_
    refine WL.nil ?_
    refine WX.next (?_)
    refine WC.cond_dec rfl (fun hc16 => ?_) (fun hc16 => ?_)
    · skip
      refine WC.seq ?_
      refine WC.seq ?_
      refine WC.region ?_
      refine WL.ex rfl rfl rfl (Ex.fa fl53_1 rfl) ?_
      refine WL.ex rfl rfl rfl (Ex.load ty3 rfl (M2.cell (i := 1) rfl rfl)) ?_
      refine WL.ex rfl rfl rfl (Ex.eqI rfl rfl) ?_
      refine WL.nil ?_
      refine WX.next (?_)
      
      refine WC.yes rfl ?_
      refine WC.region ?_
      refine WL.ex rfl rfl rfl (Ex.fa fl53_1 rfl) ?_
      refine WL.ac0 rfl rfl (Ac.st M2 ty3 rfl rfl rfl (i := 1) rfl (by simp)) ?_; rintro v30 w30 ⟨K30, M30⟩
      try dsimp only [List.set] at M30
      refine WL.nil ?_
      refine WX.next (?_)
      refine WC.seq ?_
      refine WC.region ?_
      refine WL.ex rfl rfl rfl (Ex.fa fl53_1 rfl) ?_
      refine WL.ex rfl rfl rfl (Ex.load ty3 rfl (M30.cell (i := 1) rfl rfl)) ?_
      refine WL.ex rfl rfl rfl (Ex.bld bd53 (parts := [(1, .tmp 22)]) rfl rfl rfl rfl) ?_
      refine WL.ac0 rfl rfl (Ac.stA M30 ty53 rfl rfl (vs := [str [], .int .i64 _]) rfl rfl (by simp [str, Value.oneCell']) (i := 0) rfl (by simp)) ?_; rintro v34 w34 ⟨K34, M34⟩
      try dsimp only [List.set] at M34
      rw [splice_all _ _ (by simp)] at M34
      refine WL.ex rfl rfl rfl (Ex.asg rfl) ?_
      refine WL.ex rfl rfl rfl (Ex.asg rfl) ?_
      refine WL.nil ?_
      refine WX.next (?_)
      refine WC.ret ?_
      refine WX.ret_then (?_)
      refine WX.retn rfl (.cell rfl (run_loadVarA ty53 (by first | rfl | (simp; done) | (simp; omega)) (M34.rdw (i := 0) rfl)) (.tmp rfl (.tmp rfl .nil))) rfl ?_
      have er : rTake (l, 0) n = ([], ([], 4)) := by simp [rTake, rFail]; omega
      rw [er]
      exact ⟨⟨false, rfl, by simp; omega⟩, M34.keep⟩
    · skip
      refine WC.skip ?_
      refine WX.next (?_)
      refine WC.seq ?_
      have hne : g1 ∉ [g2] := M2.apart (i := 1) (j := 0) rfl rfl (by decide) g1 (by simp [blk])
      refine WC.draw (Keep (· ∈ [g2]) w2.drew) [] (.one 0 0 (.one 2 0 (.one 5 0 (.one 7 0 (.one 1 1 (.one 3 0 (.one 4 0 (.one 6 1 (.one 8 0 (.one 9 2 (.one 10 0 (.one 11 0 .nil)))))))))))) mixed (by kernel_rfl) (by kernel_rfl) (by kernel_rfl) (HQ.then_ HQ.body) ?_
      obtain ⟨w37, hw37⟩ : ∃ v, v = w2.drew := ⟨_, rfl⟩
      have D37 : Keep nof w2 w37 := by rw [hw37]; exact Keep.drew _ _
      have M37 := M2.step D37
      rw [← hw37]; clear hw37
      refine WP.p rfl rfl rfl rfl (fun _ => Ex.fa fl53_0 rfl) ?_
      refine WP.p rfl rfl rfl rfl (fun _ => Ex.mv rfl) ?_
      refine WP.p rfl rfl rfl rfl (fun _ => Ex.fa fl53_0 rfl) ?_
      refine WP.p rfl rfl rfl rfl (fun _ => Ex.mv rfl) ?_
      refine WP.q (Keep.refl _ _) rfl rfl rfl rfl (fun w' hS => Ex.load ty9 rfl (hS.cell (M37.cell (i := 1) (v := str l) rfl rfl) hne)) ?_
      refine WP.p rfl rfl rfl rfl (fun _ => Ex.slSl Try.underlying9 rfl rfl (by omega) (by omega)) ?_
      refine WP.p rfl rfl rfl rfl (fun _ => Ex.bld bd53 (parts := [(0, .tmp 27)]) rfl rfl rfl rfl) ?_
      refine WP.q (Keep.refl _ _) rfl rfl rfl rfl (fun w' hS => Ex.load ty9 rfl (hS.cell (M37.cell (i := 1) (v := str l) rfl rfl) hne)) ?_
      refine WP.p rfl rfl rfl rfl (fun _ => Ex.slSh Try.underlying9 rfl rfl (by omega) (by omega)) ?_
      refine WP.a0 rfl rfl rfl (Ac.stA M37 ty53 rfl rfl (vs := [str (l.drop n), .int .i64 0]) rfl rfl (by simp [str, Value.oneCell']) (i := 0) rfl (by simp)) ?_; rintro v47 w47 ⟨K47, M47⟩; refine .inr ⟨fun h => h.trans K47, ?_⟩
      try dsimp only [List.set] at M47
      rw [splice_all _ _ (by simp)] at M47
      refine WP.p rfl rfl rfl rfl (fun _ => Ex.asg rfl) ?_
      refine WP.p rfl rfl rfl rfl (fun _ => Ex.asg rfl) ?_
      refine WP.nil ?_
      refine WX.next (?_)
      refine WC.ret ?_
      refine WX.retn rfl (.cell rfl (run_loadVarA ty53 (by first | rfl | (simp; done) | (simp; omega)) (M47.rdw (i := 0) rfl)) (.tmp rfl (.tmp rfl .nil))) rfl ?_
      have er : rTake (l, 0) n = (l.take n, (l.drop n, 0)) := by simp [rTake]; omega
      rw [er]
      exact ⟨⟨true, rfl, by simp; omega⟩, M47.keep⟩

/- sponsion/sponsionref04.IntOf -/
theorem intOf4_ok (w : World) (l : List UInt8) (hl : l.length = 32) :
    Gives Try.prog 34 #[str l] w fun u w1 => u = .agg (intV (ofB l)).toArray ∧ Keep nof w w1 := by
  have M0 := Mem.start w nof
  refine Gives.enter (n := 16) Try.func34 rfl Try.ntmps34 rfl (env := [(0, str l)]) rfl ?_
  refine WC.seq ?_
  refine WC.region ?_
  refine WL.ac rfl rfl rfl (Ac.alloc M0 (l := intV [0, 0, 0, 0]) (by kernel_rfl)) ?_; rintro v1 w1 ⟨g1, rfl, hg1, K1, M1⟩
  refine WL.nil ?_
  refine WX.next (?_)
  refine WC.seq ?_
  refine WC.draw (Keep nof w1.drew) [2, 5, 8, 11, 13] (.one 0 0 (.one 1 0 (.one 3 0 (.one 4 0 (.one 6 0 (.one 7 0 (.one 9 0 (.one 10 0 (.one 2 2 (.one 5 2 (.one 8 2 (.one 11 2 (.one 12 0 (.one 13 2 .nil)))))))))))))) mixed (by kernel_rfl) (by kernel_rfl) (by kernel_rfl) (HQ.then_ HQ.body) ?_
  obtain ⟨w2, hw2⟩ : ∃ v, v = w1.drew := ⟨_, rfl⟩
  have D2 : Keep nof w1 w2 := by rw [hw2]; exact Keep.drew _ _
  have M2 := M1.step D2
  rw [← hw2]; clear hw2
  refine WP.p rfl rfl rfl rfl (fun _ => Ex.mv rfl) ?_
  refine WP.p rfl rfl rfl rfl (fun _ => Ex.slS Try.underlying9 rfl rfl rfl (by omega) (by omega) (by omega)) ?_
  refine WP.p rfl rfl rfl rfl (fun _ => Ex.mv rfl) ?_
  refine WP.p rfl rfl rfl rfl (fun _ => Ex.slS Try.underlying9 rfl rfl rfl (by omega) (by omega) (by omega)) ?_
  refine WP.p rfl rfl rfl rfl (fun _ => Ex.mv rfl) ?_
  refine WP.p rfl rfl rfl rfl (fun _ => Ex.slS Try.underlying9 rfl rfl rfl (by omega) (by omega) (by omega)) ?_
  refine WP.p rfl rfl rfl rfl (fun _ => Ex.mv rfl) ?_
  refine WP.p rfl rfl rfl rfl (fun _ => Ex.slSh Try.underlying9 rfl rfl (by omega) (by omega)) ?_
  refine WP.a rfl rfl rfl rfl (Ac.call rfl Try.func30 nm30 rfl (value4_ok w2 _ (by first | (simp; done) | (simp; omega) | omega))) ?_; rintro v11 w11 ⟨rfl, K11⟩; refine .inl ⟨rfl, Keep nof w11, ?_⟩
  have M11 := M2.step K11
  refine WP.a rfl rfl rfl rfl (Ac.call rfl Try.func30 nm30 rfl (value4_ok w11 _ (by first | (simp; done) | (simp; omega) | omega))) ?_; rintro v12 w12 ⟨rfl, K12⟩; refine .inl ⟨rfl, Keep nof w12, ?_⟩
  have M12 := M11.step K12
  refine WP.a rfl rfl rfl rfl (Ac.call rfl Try.func30 nm30 rfl (value4_ok w12 _ (by first | (simp; done) | (simp; omega) | omega))) ?_; rintro v13 w13 ⟨rfl, K13⟩; refine .inl ⟨rfl, Keep nof w13, ?_⟩
  have M13 := M12.step K13
  refine WP.a rfl rfl rfl rfl (Ac.call rfl Try.func30 nm30 rfl (value4_ok w13 _ (by first | (simp; done) | (simp; omega) | omega))) ?_; rintro v14 w14 ⟨rfl, K14⟩; refine .inl ⟨rfl, Keep nof w14, ?_⟩
  have M14 := M13.step K14
  refine WP.p rfl rfl rfl rfl (fun _ => Ex.bld bd35 (parts := [(0, .tmp 5), (1, .tmp 8), (2, .tmp 11), (3, .tmp 14)]) rfl rfl rfl rfl) ?_
  refine WP.a0 rfl rfl rfl (Ac.stA M14 ty35 rfl rfl (vs := intV (ofB l)) (by rw [← ofB_eq hl]; rfl) (by simp [ofB]) (intV_one _) (i := 0) rfl (by simp [ofB])) ?_; rintro v16 w16 ⟨K16, M16⟩; refine .inl ⟨rfl, Keep nof w16, ?_⟩
  try dsimp only [List.set] at M16
  rw [splice_all _ _ (by simp [ofB])] at M16
  refine WP.nil ?_
  refine WX.next (?_)
  refine WC.ret ?_
  refine WX.retc rfl rfl (run_loadVarA ty35 (by simp [ofB]) (M16.rdw (i := 0) rfl)) ?_
  exact ⟨rfl, M16.keep⟩

/- sponsion/huge.Read -/
theorem hRead_ok (w : World) (A : Option Addr) (c : Nat) (l : List UInt8) (hr : Rd w A (bytesV l)) :
    Gives Try.prog 64 #[.slice A l.length c] w fun u w1 => u = .tuple #[.agg (intV (if l.length = 32 then ofB l else [0, 0, 0, 0])).toArray, .int .i64 (if l.length < 32 then 4 else if 32 < l.length then 5 else 0)] ∧ Keep nof w w1 := by
  have M0 := Mem.start w nof
  refine Gives.enter (n := 41) Try.func64 rfl Try.ntmps64 rfl (env := [(0, .slice A l.length c)]) rfl ?_
  refine WC.seq ?_
  refine WC.region ?_
  refine WL.ac rfl rfl rfl (Ac.alloc M0 (l := intV [0, 0, 0, 0]) (by kernel_rfl)) ?_; rintro v1 w1 ⟨g1, rfl, hg1, K1, M1⟩
  refine WL.ex rfl rfl rfl (Ex.asg rfl) ?_
  refine WL.nil ?_
  refine WX.next (?_)
  refine WC.seq ?_
  refine WC.block ?_
  refine WC.seq ?_
  refine WC.region ?_
  refine WL.ex rfl rfl rfl (Ex.mv rfl) ?_
  refine WL.ex rfl rfl rfl (Ex.len Try.underlying25 rfl) ?_
  refine WL.ex rfl rfl rfl (Ex.lss rfl rfl) ?_
  refine WL.ex rfl rfl rfl (Ex.asg rfl) ?_
  refine WL.nil ?_
  refine WX.next (?_)
  refine WC.cond_dec rfl (fun hc8 => ?_) (fun hc8 => ?_)
  · skip
    refine WC.seq ?_
    refine WC.region ?_
    refine WL.ex rfl rfl rfl (Ex.bld bd35 (parts := []) rfl rfl rfl rfl) ?_
    refine WL.ac0 rfl rfl (Ac.stA M1 ty35 rfl rfl (vs := intV [0, 0, 0, 0]) rfl rfl (intV_one _) (i := 0) rfl (by simp)) ?_; rintro v8 w8 ⟨K8, M8⟩
    try dsimp only [List.set] at M8
    rw [splice_all _ _ (by simp)] at M8
    refine WL.ex rfl rfl rfl (Ex.asg rfl) ?_
    refine WL.nil ?_
    refine WX.next (?_)
    refine WC.ret ?_
    refine WX.ret_block (WX.ret_then (?_))
    refine WX.retn rfl (.cell rfl (run_loadVarA ty35 (by first | rfl | simp [ofB]) (M8.rdw (i := 0) rfl)) (.tmp rfl .nil)) rfl ?_
    first
      | exact ⟨by rw [if_neg (show ¬ l.length = 32 by omega), if_pos (show l.length < 32 by omega)], M8.keep⟩
      | exact ⟨by rw [if_neg (show ¬ l.length = 32 by omega), if_neg (show ¬ l.length < 32 by omega), if_pos (show 32 < l.length by omega)], M8.keep⟩
      | exact ⟨by rw [if_pos hl, if_neg (show ¬ l.length < 32 by omega), if_neg (show ¬ 32 < l.length by omega)], M8.keep⟩
  · skip
    refine WC.seq ?_
    refine WC.region ?_
    refine WL.ex rfl rfl rfl (Ex.mv rfl) ?_
    refine WL.ex rfl rfl rfl (Ex.len Try.underlying25 rfl) ?_
    refine WL.ex rfl rfl rfl (Ex.gtr rfl rfl) ?_
    refine WL.ex rfl rfl rfl (Ex.asg rfl) ?_
    refine WL.nil ?_
    refine WX.next (?_)
    refine WC.cond_dec rfl (fun hc13 => ?_) (fun hc13 => ?_)
    · skip
      refine WC.seq ?_
      refine WC.region ?_
      refine WL.ex rfl rfl rfl (Ex.bld bd35 (parts := []) rfl rfl rfl rfl) ?_
      refine WL.ac0 rfl rfl (Ac.stA M1 ty35 rfl rfl (vs := intV [0, 0, 0, 0]) rfl rfl (intV_one _) (i := 0) rfl (by simp)) ?_; rintro v15 w15 ⟨K15, M15⟩
      try dsimp only [List.set] at M15
      rw [splice_all _ _ (by simp)] at M15
      refine WL.ex rfl rfl rfl (Ex.asg rfl) ?_
      refine WL.nil ?_
      refine WX.next (?_)
      refine WC.ret ?_
      refine WX.ret_block (WX.ret_then (?_))
      refine WX.retn rfl (.cell rfl (run_loadVarA ty35 (by first | rfl | simp [ofB]) (M15.rdw (i := 0) rfl)) (.tmp rfl .nil)) rfl ?_
      first
        | exact ⟨by rw [if_neg (show ¬ l.length = 32 by omega), if_pos (show l.length < 32 by omega)], M15.keep⟩
        | exact ⟨by rw [if_neg (show ¬ l.length = 32 by omega), if_neg (show ¬ l.length < 32 by omega), if_pos (show 32 < l.length by omega)], M15.keep⟩
        | exact ⟨by rw [if_pos hl, if_neg (show ¬ l.length < 32 by omega), if_neg (show ¬ 32 < l.length by omega)], M15.keep⟩
    · have hl : l.length = 32 := by omega
      refine WC.skip ?_
      refine WX.normal_block (WX.next (?_))
      refine WC.seq ?_
      refine WC.region ?_
      refine WL.ac rfl rfl rfl (Ac.alloc M1 (l := intV [0, 0, 0, 0]) (by kernel_rfl)) ?_; rintro v17 w17 ⟨g2, rfl, hg17, K17, M17⟩
      refine WL.nil ?_
      refine WX.next (?_)
      refine WC.seq ?_
      refine WC.seq ?_
      refine WC.region ?_
      refine WL.ex rfl rfl rfl (Ex.mv rfl) ?_
      refine WL.ex rfl rfl rfl (Ex.len Try.underlying25 rfl) ?_
      refine WL.ex rfl rfl rfl (Ex.mv rfl) ?_
      refine WL.nil ?_
      refine WX.next (?_)
      refine WC.block ?_
      refine WC.loop (σ := Nat) (fun i => [(2, .pointer (some ⟨g1, 0, none⟩)), (3, .int .i64 0), (4, .pointer (some ⟨g2, 0, none⟩)), (18, .slice A l.length c), (19, .int .i64 (l.length : Int)), (20, .int .i64 (i : Int))]) (fun i wr => i ≤ 32 ∧ Mem w wr nof [blk g2 (intV (limbs l i)) 35, blk g1 (intV [0, 0, 0, 0]) 35]) (fun i => 32 - i) (0) ?_ (.cons rfl (.cons rfl (.cons rfl (.cons rfl (.cons rfl (.cons rfl (.nil))))))) ?_
      · exact ⟨by omega, by rw [limbs_zero]; exact M17⟩
      rintro i w21 ⟨hi, M21⟩
      refine WC.seq ?_
      refine WC.region ?_
      refine WL.ex rfl rfl rfl (Ex.lss rfl rfl) ?_
      refine WL.nil ?_
      refine WX.next (?_)
      refine WC.seq ?_
      refine WC.cond_dec rfl (fun hc21 => ?_) (fun hc21 => ?_)
      · obtain ⟨b, hb⟩ : ∃ b, l[i]? = some b := ⟨_, List.getElem?_eq_getElem (by omega)⟩
        have hb8 := b.toNat_lt
        have hch := chunk_length (l := l) (i := i) (j := (31 - i) / 8) (by omega)
        have hli := lim_lt (chunk l i ((31 - i) / 8)) (by rw [hch]; omega)
        have hls := limbs_step hl hb
        obtain ⟨b1, o1, hA, _⟩ := hr.plain (by simp; omega)
        subst hA
        refine WC.skip ?_
        refine WX.next (?_)
        refine WC.seq ?_
        refine WC.block ?_
        refine WC.seq ?_
        refine WC.region ?_
        refine WL.ex rfl rfl rfl (Ex.mv rfl) ?_
        refine WL.ex rfl rfl rfl (Ex.ia Try.underlying25 sz5 rfl rfl ⟨by omega, by omega⟩) ?_
        refine WL.ex rfl rfl rfl (Ex.load ty5 rfl (Rd.at1 (u := byteV b) (hr.keep0 M21.keep) (j := (i : Int).toNat * 1) (by simp [bytesV_get hb]))) ?_
        refine WL.ex rfl rfl rfl (Ex.asg rfl) ?_
        refine WL.ex rfl rfl rfl (Ex.asg rfl) ?_
        refine WL.nil ?_
        refine WX.next (?_)
        refine WC.seq ?_
        refine WC.region ?_
        refine WL.ex rfl rfl rfl (Ex.mv rfl) ?_
        refine WL.ex rfl rfl rfl (Ex.sub rfl rfl (c := ((31 - i : Nat) : Int)) (by rw [i64w _ (by omega) (by omega)]; omega)) ?_
        refine WL.ex rfl rfl rfl (Ex.asg rfl) ?_
        refine WL.nil ?_
        refine WX.next (?_)
        refine WC.draw (Keep nof w21.drew) [12] (.one 0 0 (.one 1 0 (.one 2 0 (.one 4 0 (.one 5 0 (.one 6 0 (.one 7 0 (.one 8 0 (.one 9 0 (.one 3 1 (.one 10 0 (.one 11 0 (.one 12 2 .nil))))))))))))) mixed (by kernel_rfl) (by kernel_rfl) (by kernel_rfl) (HQ.block (HQ.then_ (HQ.then_ (HQ.block (HQ.then_ HQ.body))))) ?_
        obtain ⟨w31, hw31⟩ : ∃ v, v = w21.drew := ⟨_, rfl⟩
        have D31 : Keep nof w21 w31 := by rw [hw31]; exact Keep.drew _ _
        have M31 := M21.step D31
        rw [← hw31]; clear hw31
        refine WP.p rfl rfl rfl rfl (fun _ => Ex.mv rfl) ?_
        refine WP.p rfl rfl rfl rfl (fun _ => Ex.quo rfl rfl (by decide) (c := (((31 - i) / 8 : Nat) : Int)) (by rw [IntWalk.i64_quo _ _ (by omega)]; omega)) ?_
        refine WP.p rfl rfl rfl rfl (fun _ => Ex.iaA Try.underlying35 sz33 rfl rfl ⟨by omega, by omega⟩) ?_
        refine WP.p rfl rfl rfl rfl (fun _ => Ex.mv rfl) ?_
        refine WP.p rfl rfl rfl rfl (fun _ => Ex.cvI Try.underlying5 Try.underlying33 rfl (u64w_lt _ (by omega))) ?_
        refine WP.p rfl rfl rfl rfl (fun _ => Ex.mv rfl) ?_
        refine WP.p rfl rfl rfl rfl (fun _ => Ex.rem rfl rfl (by decide) (c := (((31 - i) % 8 : Nat) : Int)) (remN _ 8)) ?_
        refine WP.p rfl rfl rfl rfl (fun _ => Ex.mul rfl rfl (c := ((8 * ((31 - i) % 8) : Nat) : Int)) (by rw [i64w _ (by omega) (by omega)]; omega)) ?_
        refine WP.p rfl rfl rfl rfl (fun _ => Ex.shl rfl rfl (m := 8 * ((31 - i) % 8)) rfl (shlN b.toNat _ (by omega) (shl_lt b _ (by omega)))) ?_
        refine WP.q (Keep.refl _ _) rfl rfl rfl rfl (fun w' hS => Ex.load ty33 rfl (hS.cell (M31.cell (i := 0) (v := .int .u64 ((lim (chunk l i ((31 - i) / 8)) : Nat) : Int)) rfl (by have := intV_get (a := limbs l i) (i := (31 - i) / 8) (by simp [limbs]; omega); rw [limbs_get l i (by omega)] at this; simpa only [Nat.zero_add, Nat.mul_one, Int.toNat_natCast] using this)) (fun f => f))) ?_
        refine WP.p rfl rfl rfl rfl (fun _ => Ex.bor rfl rfl (orN _ _ hli (shl_lt b _ (by omega)) rfl)) ?_
        refine WP.p rfl rfl rfl rfl (fun _ => Ex.iaA Try.underlying35 sz33 rfl rfl ⟨by omega, by omega⟩) ?_
        refine WP.a0 rfl rfl rfl (Ac.st M31 ty33 rfl rfl rfl (i := 0) rfl (by simp [limbs]; omega)) ?_; rintro v44 w44 ⟨K44, M44⟩; refine .inl ⟨rfl, Keep nof w44, ?_⟩
        try dsimp only [List.set] at M44
        simp only [Int.toNat_natCast, Nat.mul_one, Nat.zero_add] at M44
        rw [intV_set, hls] at M44
        refine WP.nil ?_
        refine WX.normal_block (WX.next (?_))
        refine WC.region ?_
        refine WL.ex rfl rfl rfl (Ex.add rfl rfl (i64w _ (by omega) (by omega))) ?_
        refine WL.ex rfl rfl rfl (Ex.mv rfl) ?_
        refine WL.nil ?_
        refine WX.again (i + 1) ?_ ?_ (.cons rfl (.cons rfl (.cons rfl (.cons rfl (.cons rfl (.cons rfl (.nil)))))))
        · (try dsimp only); omega
        · exact ⟨by omega, M44⟩
      · obtain rfl : i = 32 := by omega
        rw [limbs_full hl] at M21
        refine WC.exit ?_
        refine WX.exit_then (WX.exit_then (WX.exit_block (WX.next (?_))))
        refine WC.seq ?_
        refine WC.region ?_
        refine WL.ex rfl rfl rfl (Ex.loadA ty35 rfl (l := intV (ofB l)) (by simp [ofB]) (M21.rdw (i := 0) rfl)) ?_
        refine WL.ac0 rfl rfl (Ac.stA M21 ty35 rfl rfl (vs := intV (ofB l)) rfl (by simp [ofB]) (intV_one _) (i := 1) rfl (by simp [ofB])) ?_; rintro v48 w48 ⟨K48, M48⟩
        try dsimp only [List.set] at M48
        rw [splice_all _ _ (by simp [ofB])] at M48
        refine WL.ex rfl rfl rfl (Ex.asg rfl) ?_
        refine WL.nil ?_
        refine WX.next (?_)
        refine WC.ret ?_
        refine WX.retn rfl (.cell rfl (run_loadVarA ty35 (by first | rfl | simp [ofB]) (M48.rdw (i := 1) rfl)) (.tmp rfl .nil)) rfl ?_
        first
          | exact ⟨by rw [if_neg (show ¬ l.length = 32 by omega), if_pos (show l.length < 32 by omega)], M48.keep⟩
          | exact ⟨by rw [if_neg (show ¬ l.length = 32 by omega), if_neg (show ¬ l.length < 32 by omega), if_pos (show 32 < l.length by omega)], M48.keep⟩
          | exact ⟨by rw [if_pos hl, if_neg (show ¬ l.length < 32 by omega), if_neg (show ¬ 32 < l.length by omega)], M48.keep⟩

end Go.Proofs.Ytpngjgcbdaogmaa
