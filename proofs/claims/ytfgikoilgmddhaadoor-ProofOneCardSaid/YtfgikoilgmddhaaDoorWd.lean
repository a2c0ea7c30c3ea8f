/- Walks, written by gen.py off the translation's own print: each says what the Go function comes to. -/
import Derived.Test.YtfgikoilgmddhaaDoorWa
set_option linter.unusedVariables false
set_option linter.unusedSimpArgs false
namespace Go.Proofs.YtfgikoilgmddhaaDoor
open Go.Sx Go.RowKit
attribute [local irreducible] Ac Ex WL WC WX WP Gives sha

def h2_ : List UInt8 := 2 :: List.replicate 31 0
theorem h2_32 : H32 h2_ := rfl
theorem hs2_32 : ∀ a ∈ [h1_, h2_], H32 a := by
  intro a ha
  simp only [List.mem_cons, List.not_mem_nil, or_false] at ha
  rcases ha with rfl | rfl
  · exact h1_32
  · exact h2_32
theorem mkQ_2 : (mkQ 1 [h1_, h2_] 2 0)[0]? = some h2_ := rfl

/- sponsion/sponsionlaw11.lives -/
theorem lives11_ok (w : World) (hT : Tabs w) :
    Gives Tryd.prog 17 #[] w fun u w1 => u = .bool true ∧ Keep nof w w1 := by
  have M0 := Mem.start w nof
  have hs := hs2_32
  have hqo := mkQ_ok hs 1 2 0
  have hq0 := mkQ_2
  refine Gives.enter (n := 21) Tryd.func17 rfl Tryd.ntmps17 rfl (env := []) rfl ?_
  refine WC.seq ?_
  refine WC.region ?_
  refine WL.ex rfl rfl rfl (Ex.asg rfl) ?_
  refine WL.nil ?_
  refine WX.next (?_)
  refine WC.seq ?_
  refine WC.region ?_
  refine WL.ex rfl rfl rfl (Ex.bldS bd28 (parts := [(0, .const (.int .u8 1))]) [[.int .u8 1]] (l := bytesV h1_) rfl rfl rfl ⟨0, 1, rfl, rfl, rfl, by simp, rfl⟩) ?_
  refine WL.ex rfl rfl rfl (Ex.bldS bd28 (parts := [(0, .const (.int .u8 2))]) [[.int .u8 2]] (l := bytesV h2_) rfl rfl rfl ⟨0, 1, rfl, rfl, rfl, by simp, rfl⟩) ?_
  refine WL.ac rfl rfl rfl (Ac.bs M0 (parts := [(0, .tmp 4), (1, .tmp 5)]) (l := fl [h1_, h2_]) rfl rfl ⟨Tryd.underlying22, 32, (bytesV (List.replicate 32 0)).toArray, sz28, by decide, fun _ => by kernel_rfl, by kernel_rfl⟩) ?_; rintro v4 w4 ⟨gs, rfl, hg4, K4, M4⟩
  refine WL.ac rfl rfl rfl (Ac.call rfl Tryd.func20 nm20 rfl (made_ok w4 1 (some ⟨gs, 0, none⟩) 2 [h1_, h2_] (by decide) (M4.rdw (i := 0) rfl) hs (by decide) (by decide) (hT.keep M4.keep))) ?_; rintro v5 w5 ⟨g, gl, ge, vs1, rfl, N5⟩
  have M5 := (M4.new N5).openS
  refine WL.ex rfl rfl rfl (Ex.asg rfl) ?_
  refine WL.nil ?_
  refine WX.next (?_)
  refine WC.seq ?_
  refine WC.region ?_
  refine WL.ex rfl rfl rfl (Ex.mv rfl) ?_
  refine WL.ac rfl rfl rfl (Ac.call rfl Tryd.func19 nm19 rfl (pMake_ok w5 g gl ge 1 vs1 [h1_, h2_] 2 0 (TreeS.of (M5.get (i := 1) rfl) (lvOf_len _ _)) (ES.of (M5.get (i := 0) rfl)) hs (by decide) (by decide) (by decide) (by decide) (hT.keep M5.keep))) ?_; rintro v8 w8 ⟨rfl, K8⟩
  rw [show mkE [h1_, h2_] 2 0 = 0 from rfl]
  have M8 := M5.step K8
  refine WL.ex rfl rfl rfl (Ex.mv rfl) ?_
  refine WL.ex rfl rfl rfl (Ex.ext rfl rfl) ?_
  refine WL.ex rfl rfl rfl (Ex.ext rfl rfl) ?_
  refine WL.ac rfl rfl rfl (Ac.alloc M8 (l := prfC prf0) (by kernel_rfl)) ?_; rintro v12 w12 ⟨gp, rfl, hg12, K12, M12⟩
  refine WL.ac0 rfl rfl (Ac.stA M12 ty38 rfl rfl rfl (prf_len (by first | assumption | exact prf0_ok)) (prf_one) (i := 0) rfl (by first | (rw [prf_len (by first | assumption | exact prf0_ok), prf_len (by first | assumption | exact prf0_ok)]; decide) | (rw [prf_len (by first | assumption | exact prf0_ok)]; decide) | rw [prf_len (by first | assumption | exact prf0_ok)])) ?_; rintro v13 w13 ⟨K13, M13⟩
  try dsimp only [List.set] at M13
  rw [splice_all _ _ (by first | rw [prf_len (by first | assumption | exact prf0_ok), prf_len (by first | assumption | exact prf0_ok)] | rw [prf_len (by first | assumption | exact prf0_ok)])] at M13
  refine WL.ex rfl rfl rfl (Ex.asg rfl) ?_
  refine WL.nil ?_
  refine WX.next (?_)
  refine WC.seq ?_
  refine WC.region ?_
  refine WL.ex rfl rfl rfl (Ex.mv rfl) ?_
  refine WL.ex rfl rfl rfl (Ex.eqI rfl rfl) ?_
  refine WL.ex rfl rfl rfl (Ex.mv rfl) ?_
  
  refine WL.yes rfl rfl rfl rfl ?_
  refine WL.ex rfl rfl rfl (Ex.iaA Tryd.underlying38 sz28 rfl rfl ⟨by omega, by omega⟩) ?_
  refine WL.yes rfl rfl rfl rfl ?_
  refine WL.ex rfl rfl rfl (Ex.loadA ty28 rfl (l := bytesV h2_) rfl (M13.rdt (i := 0) rfl (flat_at (i := 0) (fun a ha => h32_len (hqo.mem a ha)) hq0 rfl))) ?_
  refine WL.yes rfl rfl rfl rfl ?_
  refine WL.ex rfl rfl rfl (Ex.bldS bd28 (parts := [(0, .const (.int .u8 2))]) [[.int .u8 2]] (l := bytesV h2_) rfl rfl rfl ⟨0, 1, rfl, rfl, rfl, by simp, rfl⟩) ?_
  refine WL.yes rfl rfl rfl rfl ?_
  refine WL.ex rfl rfl rfl (Ex.eqA rfl rfl (eqHash w h2_32 h2_32)) ?_
  rw [decide_eq_true rfl]
  refine WL.ex rfl rfl rfl (Ex.pickT rfl rfl) ?_
  refine WL.ex rfl rfl rfl (Ex.asg rfl) ?_
  refine WL.nil ?_
  refine WX.next (?_)
  refine WC.ret ?_
  refine WX.ret1 rfl rfl ?_
  exact ⟨rfl, M13.keep⟩

/- sponsion/sponsionlaw11.ProofMakes -/
theorem proofMakes_walk (w : World) (x : Nat) (A : Option Addr) (c : Nat) (ls0 : Hs) (n i : Nat) (hx : x < 256) (hr0 : Rd w A (fl ls0)) (hls0 : ∀ a ∈ ls0, H32 a) (hc : ls0.length ≤ c) (hcm : c ≤ maxLen) (hn : n < 18446744073709551616) (hi : i < 18446744073709551616) (hT : Tabs w) (hR : TabR w) :
    Gives Tryd.prog 4 #[.int .u8 (x : Int), .slice A ls0.length c, .int .u64 (n : Int), .int .u64 (i : Int)] w fun u w1 => u = .bool true ∧ Keep nof w w1 := by
  have M0 := Mem.start w nof
  obtain ⟨d, hd⟩ : ∃ d, d = x % 33 := ⟨_, rfl⟩
  have hd32 : d ≤ 32 := by omega
  obtain ⟨q, hq⟩ : ∃ q, q = min (min ls0.length 30) (2 ^ d) := ⟨_, rfl⟩
  obtain ⟨ls, hlse⟩ : ∃ ls, ls = ls0.take q := ⟨_, rfl⟩
  have hlq : ls.length = q := by rw [hlse, List.length_take]; omega
  have hls : ∀ a ∈ ls, H32 a := by rw [hlse]; exact take32 hls0 q
  have hr : Rd w A (fl ls) := by rw [hlse, fl_take hls0]; exact hr0.take _
  have hld : ls.length ≤ 2 ^ d := by omega
  have hqo := mkQ_ok hls d n i
  have hp0 := prf0_ok
  have hp2 := pow32 hd32
  refine Gives.enter (n := 77) Tryd.func4 rfl Tryd.ntmps4 rfl (env := [(0, .int .u8 (x : Int)), (1, .slice A ls0.length c), (2, .int .u64 (n : Int)), (3, .int .u64 (i : Int))]) rfl ?_
  refine WC.seq ?_
  refine WC.region ?_
  refine WL.ex rfl rfl rfl (Ex.asg rfl) ?_
  refine WL.nil ?_
  refine WX.next (?_)
  refine WC.seq ?_
  refine WC.seq ?_
  refine WC.region ?_
  refine WL.ac rfl rfl rfl (Ac.call rfl Tryd.func17 nm17 rfl (lives11_ok w (hT.keep M0.keep))) ?_; rintro v2 w2 ⟨rfl, K2⟩
  have M2 := M0.step K2
  refine WL.ex rfl rfl rfl (Ex.not rfl) ?_
  refine WL.nil ?_
  refine WX.next (?_)
  refine WC.no rfl ?_
  refine WC.skip ?_
  refine WX.next (?_)
  refine WC.seq ?_
  refine WC.region ?_
  refine WL.ex rfl rfl rfl (Ex.mv rfl) ?_
  refine WL.ex rfl rfl rfl (Ex.mv rfl) ?_
  refine WL.ac rfl rfl rfl (Ac.call rfl Tryd.func18 nm18 rfl (fit_ok w2 x A c ls0 hx hc hcm)) ?_; rintro v6 w6 ⟨rfl, K6⟩
  rw [← hd, ← hq, ← hlq]
  have M6 := M2.step K6
  refine WL.ex rfl rfl rfl (Ex.mv rfl) ?_
  refine WL.ex rfl rfl rfl (Ex.ext rfl rfl) ?_
  refine WL.ex rfl rfl rfl (Ex.ext rfl rfl) ?_
  refine WL.ex rfl rfl rfl (Ex.asg rfl) ?_
  refine WL.ex rfl rfl rfl (Ex.asg rfl) ?_
  refine WL.nil ?_
  refine WX.next (?_)
  refine WC.seq ?_
  refine WC.region ?_
  refine WL.ex rfl rfl rfl (Ex.mv rfl) ?_
  refine WL.ex rfl rfl rfl (Ex.mv rfl) ?_
  refine WL.ac rfl rfl rfl (Ac.call rfl Tryd.func20 nm20 rfl (made_ok w6 d A c ls hd32 (M6.rd hr) hls hld (by omega) (hT.keep M6.keep))) ?_; rintro v14 w14 ⟨g, gl, ge, vs1, rfl, N14⟩
  have M14 := (M6.new N14).openS
  refine WL.ex rfl rfl rfl (Ex.mv rfl) ?_
  refine WL.ex rfl rfl rfl (Ex.mv rfl) ?_
  refine WL.ac rfl rfl rfl (Ac.call rfl Tryd.func19 nm19 rfl (pMake_ok w14 g gl ge d vs1 ls n i (TreeS.of (M14.get (i := 1) rfl) (lvOf_len _ _)) (ES.of (M14.get (i := 0) rfl)) hls hld hn hi hd32 (hT.keep M14.keep))) ?_; rintro v17 w17 ⟨rfl, K17⟩
  have M17 := M14.step K17
  refine WL.ex rfl rfl rfl (Ex.mv rfl) ?_
  refine WL.ex rfl rfl rfl (Ex.ext rfl rfl) ?_
  refine WL.ex rfl rfl rfl (Ex.ext rfl rfl) ?_
  refine WL.ac rfl rfl rfl (Ac.alloc M17 (l := prfC prf0) (by kernel_rfl)) ?_; rintro v21 w21 ⟨gP, rfl, hg21, K21, M21⟩
  refine WL.ac0 rfl rfl (Ac.stA M21 ty38 rfl rfl rfl (prf_len (by first | assumption | exact prf0_ok)) (prf_one) (i := 0) rfl (by first | (rw [prf_len (by first | assumption | exact prf0_ok), prf_len (by first | assumption | exact prf0_ok)]; decide) | (rw [prf_len (by first | assumption | exact prf0_ok)]; decide) | rw [prf_len (by first | assumption | exact prf0_ok)])) ?_; rintro v22 w22 ⟨K22, M22⟩
  try dsimp only [List.set] at M22
  rw [splice_all _ _ (by first | rw [prf_len (by first | assumption | exact prf0_ok), prf_len (by first | assumption | exact prf0_ok)] | rw [prf_len (by first | assumption | exact prf0_ok)])] at M22
  refine WL.ex rfl rfl rfl (Ex.asg rfl) ?_
  refine WL.nil ?_
  refine WX.next (?_)
  refine WC.seq ?_
  refine WC.region ?_
  refine WL.ex rfl rfl rfl (Ex.bld bd38 (parts := []) (l := prfC (List.replicate 32 (List.replicate 32 0))) rfl rfl rfl rfl) ?_
  refine WL.ac rfl rfl rfl (Ac.alloc M22 (l := prfC prf0) (by kernel_rfl)) ?_; rintro v25 w25 ⟨gZ, rfl, hg25, K25, M25⟩
  refine WL.ac0 rfl rfl (Ac.stA M25 ty38 rfl rfl rfl (prf_len (by first | assumption | exact prf0_ok)) (prf_one) (i := 0) rfl (by first | (rw [prf_len (by first | assumption | exact prf0_ok), prf_len (by first | assumption | exact prf0_ok)]; decide) | (rw [prf_len (by first | assumption | exact prf0_ok)]; decide) | rw [prf_len (by first | assumption | exact prf0_ok)])) ?_; rintro v26 w26 ⟨K26, M26⟩
  try dsimp only [List.set] at M26
  rw [splice_all _ _ (by first | rw [prf_len (by first | assumption | exact prf0_ok), prf_len (by first | assumption | exact prf0_ok)] | rw [prf_len (by first | assumption | exact prf0_ok)])] at M26
  refine WL.nil ?_
  refine WX.next (?_)
  refine WC.seq ?_
  refine WC.region ?_
  refine WL.ac rfl rfl rfl (Ac.call rfl Tryd.func19 nm19 rfl (pMakeNil_ok w26 0 0)) ?_; rintro v27 w27 ⟨rfl, K27⟩
  have M27 := M26.step K27
  refine WL.ex rfl rfl rfl (Ex.mv rfl) ?_
  refine WL.ex rfl rfl rfl (Ex.ext rfl rfl) ?_
  refine WL.ex rfl rfl rfl (Ex.ext rfl rfl) ?_
  refine WL.ac rfl rfl rfl (Ac.alloc M27 (l := prfC prf0) (by kernel_rfl)) ?_; rintro v31 w31 ⟨gN, rfl, hg31, K31, M31⟩
  refine WL.ac0 rfl rfl (Ac.stA M31 ty38 rfl rfl rfl (prf_len (by first | assumption | exact prf0_ok)) (prf_one) (i := 0) rfl (by first | (rw [prf_len (by first | assumption | exact prf0_ok), prf_len (by first | assumption | exact prf0_ok)]; decide) | (rw [prf_len (by first | assumption | exact prf0_ok)]; decide) | rw [prf_len (by first | assumption | exact prf0_ok)])) ?_; rintro v32 w32 ⟨K32, M32⟩
  try dsimp only [List.set] at M32
  rw [splice_all _ _ (by first | rw [prf_len (by first | assumption | exact prf0_ok), prf_len (by first | assumption | exact prf0_ok)] | rw [prf_len (by first | assumption | exact prf0_ok)])] at M32
  refine WL.ex rfl rfl rfl (Ex.asg rfl) ?_
  refine WL.nil ?_
  refine WX.next (?_)
  refine WC.seq ?_
  refine WC.block ?_
  refine WC.seq ?_
  refine WC.region ?_
  refine WL.ex rfl rfl rfl (Ex.mv rfl) ?_
  refine WL.ex rfl rfl rfl (Ex.neI rfl rfl) ?_
  refine WL.ex rfl rfl rfl (Ex.asg rfl) ?_
  refine WL.nil ?_
  refine WX.next (?_)
  
  refine WC.no rfl ?_
  refine WC.seq ?_
  refine WC.region ?_
  refine WL.ex rfl rfl rfl (Ex.mv rfl) ?_
  refine WL.ex rfl rfl rfl (Ex.mv rfl) ?_
  refine WL.ex rfl rfl rfl (Ex.len Tryd.underlying22 rfl) ?_
  refine WL.ex rfl rfl rfl (Ex.cvI Tryd.underlying3 Tryd.underlying23 rfl (u64w_lt _ (by omega))) ?_
  refine WL.ex rfl rfl rfl (Ex.gtr rfl rfl) ?_
  refine WL.ex rfl rfl rfl (Ex.asg rfl) ?_
  refine WL.nil ?_
  refine WX.next (?_)
  refine WC.cond_dec rfl (fun h41 => ?_) (fun h41 => ?_)
  · have hme : mkE ls n i = 1 := if_pos (by omega)
    have hmq : mkQ d ls n i = (List.replicate 32 (List.replicate 32 0)) := by rw [mkQ, hme]; rfl
    rw [hme]
    rw [hmq] at M32
    refine WC.seq ?_
    refine WC.region ?_
    refine WL.ex rfl rfl rfl (Ex.mv rfl) ?_
    refine WL.ex rfl rfl rfl (Ex.eqI rfl rfl) ?_
    refine WL.ex rfl rfl rfl (Ex.mv rfl) ?_
    
    refine WL.yes rfl rfl rfl rfl ?_
    refine WL.ex rfl rfl rfl (Ex.loadA ty38 rfl (prf_len (by first | assumption | exact prf0_ok)) (M32.rdw (i := 2) rfl)) ?_
    refine WL.yes rfl rfl rfl rfl ?_
    refine WL.ex rfl rfl rfl (Ex.loadA ty38 rfl (prf_len (by first | assumption | exact prf0_ok)) (M32.rdw (i := 1) rfl)) ?_
    refine WL.yes rfl rfl rfl rfl ?_
    refine WL.ex rfl rfl rfl (Ex.eqA rfl rfl (eqPrf w hp0 hp0)) ?_
    rw [decide_eq_true rfl]
    refine WL.ex rfl rfl rfl (Ex.pickT rfl rfl) ?_
    refine WL.ex rfl rfl rfl (Ex.asg rfl) ?_
    refine WL.nil ?_
    refine WX.next (?_)
    refine WC.ret ?_
    refine WX.ret_block (WX.ret_then (?_))
    refine WX.ret1 rfl rfl ?_
    exact ⟨rfl, M32.keep⟩
  · skip
    refine WC.seq ?_
    refine WC.region ?_
    refine WL.ex rfl rfl rfl (Ex.mv rfl) ?_
    refine WL.ex rfl rfl rfl (Ex.mv rfl) ?_
    refine WL.ex rfl rfl rfl (Ex.geq rfl rfl) ?_
    refine WL.ex rfl rfl rfl (Ex.asg rfl) ?_
    refine WL.nil ?_
    refine WX.next (?_)
    refine WC.cond_dec rfl (fun h54 => ?_) (fun h54 => ?_)
    · have hme : mkE ls n i = 10 := by rw [mkE, if_neg (by omega), if_pos (by omega)]
      have hmq : mkQ d ls n i = (List.replicate 32 (List.replicate 32 0)) := by rw [mkQ, hme]; rfl
      rw [hme]
      rw [hmq] at M32
      refine WC.seq ?_
      refine WC.region ?_
      refine WL.ex rfl rfl rfl (Ex.mv rfl) ?_
      refine WL.ex rfl rfl rfl (Ex.eqI rfl rfl) ?_
      refine WL.ex rfl rfl rfl (Ex.mv rfl) ?_
      
      refine WL.yes rfl rfl rfl rfl ?_
      refine WL.ex rfl rfl rfl (Ex.loadA ty38 rfl (prf_len (by first | assumption | exact prf0_ok)) (M32.rdw (i := 2) rfl)) ?_
      refine WL.yes rfl rfl rfl rfl ?_
      refine WL.ex rfl rfl rfl (Ex.loadA ty38 rfl (prf_len (by first | assumption | exact prf0_ok)) (M32.rdw (i := 1) rfl)) ?_
      refine WL.yes rfl rfl rfl rfl ?_
      refine WL.ex rfl rfl rfl (Ex.eqA rfl rfl (eqPrf w hp0 hp0)) ?_
      rw [decide_eq_true rfl]
      refine WL.ex rfl rfl rfl (Ex.pickT rfl rfl) ?_
      refine WL.ex rfl rfl rfl (Ex.asg rfl) ?_
      refine WL.nil ?_
      refine WX.next (?_)
      refine WC.ret ?_
      refine WX.ret_block (WX.ret_then (?_))
      refine WX.ret1 rfl rfl ?_
      exact ⟨rfl, M32.keep⟩
    · have hme : mkE ls n i = 0 := by rw [mkE, if_neg (by omega), if_neg (by omega)]
      have hmq : mkQ d ls n i = fillTo 32 d (pF ls n i) (List.replicate 32 0) := by rw [mkQ, hme]; rfl
      rw [hme]
      rw [hmq] at M32 hqo
      have htl : (ls.take n).length = n := by rw [List.length_take]; omega
      refine WC.skip ?_
      refine WX.normal_block (WX.next (?_))
      refine WC.seq ?_
      refine WC.draw (Keep nof w32.drew) [] (.one 0 0 (.one 1 0 (.one 2 0 (.one 4 0 (.one 5 0 (.one 6 0 (.one 7 0 (.one 8 0 (.one 3 1 (.one 9 2 (.one 10 0 (.one 11 0 (.one 12 0 .nil))))))))))))) mixed (by kernel_rfl) (by kernel_rfl) (by kernel_rfl) (HQ.then_ HQ.body) ?_
      obtain ⟨w63, hw63⟩ : ∃ v, v = w32.drew := ⟨_, rfl⟩
      have D63 : Keep nof w32 w63 := by rw [hw63]; exact Keep.drew _ _
      have M63 := M32.step D63
      rw [← hw63]; clear hw63
      refine WP.p rfl rfl rfl rfl (fun _ => Ex.mv rfl) ?_
      refine WP.p rfl rfl rfl rfl (fun _ => Ex.eqI rfl rfl) ?_
      refine WP.p rfl rfl rfl rfl (fun _ => Ex.mv rfl) ?_
      
      refine WP.py rfl rfl rfl rfl rfl rfl (fun _ => Ex.mv rfl) ?_
      refine WP.py rfl rfl rfl rfl rfl rfl (fun _ => Ex.mv rfl) ?_
      refine WP.py rfl rfl rfl rfl rfl rfl (fun _ => Ex.mv rfl) ?_
      refine WP.py rfl rfl rfl rfl rfl rfl (fun _ => Ex.slh Tryd.underlying22 sz28 rfl rfl (Int.natCast_nonneg _) (by omega)) ?_
      rw [Int.toNat_natCast]
      refine WP.py rfl rfl rfl rfl rfl rfl (fun _ => Ex.mv rfl) ?_
      refine WP.qy (Keep.refl _ _) rfl rfl rfl rfl rfl rfl (fun w' hS => Ex.loadA ty38 rfl (prf_len (by first | assumption | exact prf0_ok)) ((M63.rdw (i := 2) rfl).keep0 hS)) ?_
      refine WP.ays rfl rfl rfl rfl rfl rfl (Ac.call rfl Tryd.func21 nm21 rfl ((by
        have hx := rMake_ok w63 d A c ls (ls.take n) n i (by rw [fl_take hls]; exact (M63.rd hr).take _) hls rfl (by omega) hd32 (by omega) (hR.keep0 M63.keep)
        rw [htl] at hx
        exact hx))) ?_; rintro v73 w73 ⟨rfl, K73⟩
      refine ⟨Keep nof w73, fun u h => K73.trans h, Keep.refl _ _, ?_⟩
      have M73 := M63.step K73
      refine WP.py rfl rfl rfl rfl rfl rfl (fun _ => Ex.eqA rfl rfl (eqPrf w hqo hqo)) ?_
      rw [decide_eq_true rfl]
      refine WP.p rfl rfl rfl rfl (fun _ => Ex.pickT rfl rfl) ?_
      refine WP.p rfl rfl rfl rfl (fun _ => Ex.asg rfl) ?_
      refine WP.nil ?_
      refine WX.next (?_)
      refine WC.ret ?_
      refine WX.ret1 rfl rfl ?_
      exact ⟨rfl, M73.keep⟩

end Go.Proofs.YtfgikoilgmddhaaDoor
