/- Walks, written by gen.py off the translation's own print: each says what the Go function comes to. -/
import Derived.Test.YtfgikoilgmddhaaDoorWa
set_option linter.unusedVariables false
set_option linter.unusedSimpArgs false
namespace Go.Proofs.YtfgikoilgmddhaaDoor
open Go.Sx Go.RowKit
attribute [local irreducible] Ac Ex WL WC WX WP Gives sha

theorem fillP_ok {ls : Hs} (h : ∀ a ∈ ls, H32 a) (n i k : Nat) : PrfOk (fillTo 32 k (pF ls n i) (List.replicate 32 0)) := ⟨by simp, fun a ha => by
  obtain ⟨j, _, rfl⟩ := List.mem_map.1 ha
  split
  · exact pF32 h n i j
  · exact h32_0⟩
theorem mkQ_ok {ls : Hs} (h : ∀ a ∈ ls, H32 a) (d n i : Nat) : PrfOk (mkQ d ls n i) := by
  unfold mkQ
  split
  · exact fillP_ok h n i d
  · exact prf0_ok

/- sponsion/proof.Make -/
theorem pMake_ok (w : World) (g gl ge d : Nat) (vs : List Value) (ls : Hs) (n i : Nat) (hTr : TreeS w g gl ge d vs (lvOf dNode e0 d ls)) (hE : ES w ge d) (hls : ∀ a ∈ ls, H32 a) (hld : ls.length ≤ 2 ^ d) (hn : n < 18446744073709551616) (hi : i < 18446744073709551616) (hd : d ≤ 32) (hT : Tabs w) :
    Gives Tryd.prog 19 #[.pointer (some ⟨g, 0, none⟩), .int .u64 (n : Int), .int .u64 (i : Int)] w fun u w1 => u = .tuple #[.agg (prfC (mkQ d ls n i)).toArray, .int .i64 (mkE ls n i)] ∧ Keep nof w w1 := by
  have M0 := Mem.start w nof
  have hl0 := lvOf_get (N := dNode) (e := e0) (d := d) (ls := ls) (j := 0) (by omega)
  rw [levOf_zero] at hl0
  have hp0 := prf0_ok
  refine Gives.enter (n := 45) Tryd.func19 rfl Tryd.ntmps19 rfl (env := [(0, .pointer (some ⟨g, 0, none⟩)), (1, .int .u64 (n : Int)), (2, .int .u64 (i : Int))]) rfl ?_
  refine WC.seq ?_
  refine WC.region ?_
  refine WL.ac rfl rfl rfl (Ac.alloc M0 (l := prfC prf0) (by kernel_rfl)) ?_; rintro v1 w1 ⟨go, rfl, hg1, K1, M1⟩
  refine WL.ex rfl rfl rfl (Ex.asg rfl) ?_
  refine WL.nil ?_
  refine WX.next (?_)
  refine WC.seq ?_
  refine WC.region ?_
  refine WL.ac rfl rfl rfl (Ac.alloc M1 (l := prfC prf0) (by kernel_rfl)) ?_; rintro v3 w3 ⟨gp, rfl, hg3, K3, M3⟩
  refine WL.nil ?_
  refine WX.next (?_)
  refine WC.seq ?_
  refine WC.block ?_
  refine WC.seq ?_
  refine WC.region ?_
  refine WL.ex rfl rfl rfl (Ex.mv rfl) ?_
  refine WL.ex rfl rfl rfl (Ex.eqPn Tryd.underlying25 rfl) ?_
  refine WL.ex rfl rfl rfl (Ex.mv rfl) ?_
  refine WL.yes rfl rfl rfl rfl ?_
  refine WL.ex rfl rfl rfl (Ex.mv rfl) ?_
  refine WL.yes rfl rfl rfl rfl ?_
  refine WL.ex rfl rfl rfl (Ex.mv rfl) ?_
  refine WL.yes rfl rfl rfl rfl ?_
  refine WL.ac rfl rfl rfl (Ac.call rfl Tryd.func16 nm16 rfl (tLen_ok w3 g gl ge d vs _ ls (hTr.keep M3.keep) hl0)) ?_; rintro v9 w9 ⟨rfl, K9⟩
  have M9 := M3.step K9
  refine WL.yes rfl rfl rfl rfl ?_
  refine WL.ex rfl rfl rfl (Ex.gtr rfl rfl) ?_
  refine WL.ex rfl rfl rfl (Ex.pickF rfl rfl) ?_
  refine WL.ex rfl rfl rfl (Ex.asg rfl) ?_
  refine WL.nil ?_
  refine WX.next (?_)
  refine WC.cond_dec rfl (fun h10 => ?_) (fun h10 => ?_)
  · have hme : mkE ls n i = 1 := if_pos (by omega)
    have hmq : mkQ d ls n i = (List.replicate 32 (List.replicate 32 0)) := by rw [mkQ, hme]; rfl
    refine WC.seq ?_
    refine WC.region ?_
    refine WL.ex rfl rfl rfl (Ex.loadA ty38 rfl (prf_len (by first | assumption | exact prf0_ok)) (M9.rdw (i := 0) rfl)) ?_
    refine WL.ac0 rfl rfl (Ac.stA M9 ty38 rfl rfl rfl (prf_len (by first | assumption | exact prf0_ok)) (prf_one) (i := 1) rfl (by first | (rw [prf_len (by first | assumption | exact prf0_ok), prf_len (by first | assumption | exact prf0_ok)]; decide) | (rw [prf_len (by first | assumption | exact prf0_ok)]; decide) | rw [prf_len (by first | assumption | exact prf0_ok)])) ?_; rintro v14 w14 ⟨K14, M14⟩
    try dsimp only [List.set] at M14
    rw [splice_all _ _ (by first | rw [prf_len (by first | assumption | exact prf0_ok), prf_len (by first | assumption | exact prf0_ok)] | rw [prf_len (by first | assumption | exact prf0_ok)])] at M14
    refine WL.ex rfl rfl rfl (Ex.asg rfl) ?_
    refine WL.nil ?_
    refine WX.next (?_)
    refine WC.ret ?_
    refine WX.ret_block (WX.ret_then (?_))
    refine WX.retn rfl (.cell rfl (run_loadVarA ty38 (prf_len (by first | assumption | exact prf0_ok)) (M14.rdw (i := 1) rfl)) (.tmp rfl .nil)) rfl ?_
    rw [hme, hmq]
    exact ⟨rfl, M14.keep⟩
  · skip
    refine WC.seq ?_
    refine WC.region ?_
    refine WL.ex rfl rfl rfl (Ex.mv rfl) ?_
    refine WL.ex rfl rfl rfl (Ex.mv rfl) ?_
    refine WL.ex rfl rfl rfl (Ex.geq rfl rfl) ?_
    refine WL.ex rfl rfl rfl (Ex.asg rfl) ?_
    refine WL.nil ?_
    refine WX.next (?_)
    refine WC.cond_dec rfl (fun h20 => ?_) (fun h20 => ?_)
    · have hme : mkE ls n i = 10 := by rw [mkE, if_neg (by omega), if_pos (by omega)]
      have hmq : mkQ d ls n i = (List.replicate 32 (List.replicate 32 0)) := by rw [mkQ, hme]; rfl
      refine WC.seq ?_
      refine WC.region ?_
      refine WL.ex rfl rfl rfl (Ex.loadA ty38 rfl (prf_len (by first | assumption | exact prf0_ok)) (M9.rdw (i := 0) rfl)) ?_
      refine WL.ac0 rfl rfl (Ac.stA M9 ty38 rfl rfl rfl (prf_len (by first | assumption | exact prf0_ok)) (prf_one) (i := 1) rfl (by first | (rw [prf_len (by first | assumption | exact prf0_ok), prf_len (by first | assumption | exact prf0_ok)]; decide) | (rw [prf_len (by first | assumption | exact prf0_ok)]; decide) | rw [prf_len (by first | assumption | exact prf0_ok)])) ?_; rintro v21 w21 ⟨K21, M21⟩
      try dsimp only [List.set] at M21
      rw [splice_all _ _ (by first | rw [prf_len (by first | assumption | exact prf0_ok), prf_len (by first | assumption | exact prf0_ok)] | rw [prf_len (by first | assumption | exact prf0_ok)])] at M21
      refine WL.ex rfl rfl rfl (Ex.asg rfl) ?_
      refine WL.nil ?_
      refine WX.next (?_)
      refine WC.ret ?_
      refine WX.ret_block (WX.ret_then (?_))
      refine WX.retn rfl (.cell rfl (run_loadVarA ty38 (prf_len (by first | assumption | exact prf0_ok)) (M21.rdw (i := 1) rfl)) (.tmp rfl .nil)) rfl ?_
      rw [hme, hmq]
      exact ⟨rfl, M21.keep⟩
    · have hme : mkE ls n i = 0 := by rw [mkE, if_neg (by omega), if_neg (by omega)]
      have hmq : mkQ d ls n i = fillTo 32 d (pF ls n i) (List.replicate 32 0) := by rw [mkQ, hme]; rfl
      have hqo := fillP_ok hls n i d
      refine WC.skip ?_
      refine WX.normal_block (WX.next (?_))
      refine WC.seq ?_
      refine WC.seq ?_
      refine WC.region ?_
      refine WL.ex rfl rfl rfl (Ex.mv rfl) ?_
      refine WL.ac rfl rfl rfl (Ac.call rfl Tryd.func28 nm28 rfl (tDepth_ok w9 g gl ge d vs _ (hTr.keep M9.keep) hd)) ?_; rintro v24 w24 ⟨rfl, K24⟩
      have M24 := M9.step K24
      refine WL.ex rfl rfl rfl (Ex.mv rfl) ?_
      refine WL.nil ?_
      refine WX.next (?_)
      refine WC.block ?_
      refine WC.loop (σ := Nat) (fun k => [(0, .pointer (some ⟨g, 0, none⟩)), (1, .int .u64 (n : Int)), (2, .int .u64 (i : Int)), (6, .pointer (some ⟨go, 0, none⟩)), (8, .pointer (some ⟨gp, 0, none⟩)), (26, .int .i64 (d : Int)), (27, .int .i64 (k : Int))]) (fun k wr => k ≤ d ∧ Mem w wr nof [blk gp (prfC (fillTo 32 k (pF ls n i) (List.replicate 32 0))) 38, blk go (prfC ((List.replicate 32 (List.replicate 32 0)))) 38]) (fun k => d - k) (0) ?_ (.cons rfl (.cons rfl (.cons rfl (.cons rfl (.cons rfl (.cons rfl (.cons rfl (.nil)))))))) ?_
      · refine ⟨by omega, ?_⟩
        rw [fillTo_zero]
        exact M24
      rintro k w26 ⟨hk, M26⟩
      refine WC.seq ?_
      refine WC.region ?_
      refine WL.ex rfl rfl rfl (Ex.lss rfl rfl) ?_
      refine WL.nil ?_
      refine WX.next (?_)
      refine WC.seq ?_
      refine WC.cond_dec rfl (fun hc28 => ?_) (fun hc28 => ?_)
      · have hf32 := pF32 hls n i k
        have hpo := fillP_ok hls n i k
        have hmt := mkT_ok (d := d) (ls := ls) (n := n) (i := i) (k := k) (by omega) (by omega) hld (by omega)
        have hdv := Nat.div_le_self i (2 ^ k)
        have hxl : (i / 2 ^ k) ^^^ 1 < 18446744073709551616 := Nat.xor_lt_two_pow (n := 64) (by omega) (by decide)
        refine WC.skip ?_
        refine WX.next (?_)
        refine WC.seq ?_
        refine WC.block ?_
        refine WC.seq ?_
        refine WC.region ?_
        refine WL.ex rfl rfl rfl (Ex.mv rfl) ?_
        refine WL.ex rfl rfl rfl (Ex.asg rfl) ?_
        refine WL.nil ?_
        refine WX.next (?_)
        refine WC.region ?_
        refine WL.ex rfl rfl rfl (Ex.mv rfl) ?_
        refine WL.ex rfl rfl rfl (Ex.mv rfl) ?_
        refine WL.ex rfl rfl rfl (Ex.mv rfl) ?_
        refine WL.ex rfl rfl rfl (Ex.mv rfl) ?_
        refine WL.ex rfl rfl rfl (Ex.mv rfl) ?_
        refine WL.ex rfl rfl rfl (Ex.mv rfl) ?_
        refine WL.ex rfl rfl rfl (Ex.shr rfl rfl (m := k) rfl (c := ((i / 2 ^ k : Nat) : Int)) (shrN _ _ _ (by simp [IntKind.bits]; omega))) ?_
        refine WL.ex rfl rfl rfl (Ex.bxor rfl rfl (c := (((i / 2 ^ k) ^^^ 1 : Nat) : Int)) (u64_xor_nat (i / 2 ^ k) 1 (by omega) (by decide))) ?_
        refine WL.ac rfl rfl rfl (Ac.call rfl Tryd.func23 nm23 rfl (tNode_ok w26 g gl ge d vs ls n (k : Int) ((i / 2 ^ k) ^^^ 1) (hTr.keep M26.keep) (hE.keep M26.keep) hls hn (by omega) hxl hd (hT.keep M26.keep))) ?_; rintro v38 w38 ⟨rfl, K38⟩
        rw [hmt]
        have M38 := M26.step K38
        refine WL.ex rfl rfl rfl (Ex.mv rfl) ?_
        refine WL.ex rfl rfl rfl (Ex.ext rfl rfl) ?_
        refine WL.ex rfl rfl rfl (Ex.ext rfl rfl) ?_
        refine WL.ex rfl rfl rfl (Ex.iaA Tryd.underlying38 sz28 rfl rfl ⟨by omega, by omega⟩) ?_
        refine WL.ac0 rfl rfl (Ac.stA M38 ty28 rfl rfl (vs := bytesV (pF ls n i k)) rfl (h32_len hf32) (bytesV_one _) (i := 0) rfl (by rw [h32_len hf32, prf_len hpo]; simp; omega)) ?_; rintro v43 w43 ⟨K43, M43⟩
        try dsimp only [List.set] at M43
        rw [prfC, flat_set (fun a ha => h32_len (hpo.mem a ha)) (h32_len hf32) (i := k) (by rw [hpo.len]; omega) (by simp)] at M43
        rw [show (fillTo 32 k (pF ls n i) (List.replicate 32 0)).set k (pF ls n i k) = fillTo 32 (k + 1) (pF ls n i) (List.replicate 32 0) from fillTo_set 32 k (pF ls n i) _] at M43
        refine WL.nil ?_
        refine WX.normal_block (WX.next (?_))
        refine WC.region ?_
        refine WL.ex rfl rfl rfl (Ex.add rfl rfl (i64w _ (by omega) (by omega))) ?_
        refine WL.ex rfl rfl rfl (Ex.mv rfl) ?_
        refine WL.nil ?_
        refine WX.again (k + 1) ?_ ?_ (.cons rfl (.cons rfl (.cons rfl (.cons rfl (.cons rfl (.cons rfl (.cons rfl (.nil))))))))
        · (try dsimp only); omega
        · exact ⟨by omega, M43⟩
      · obtain rfl : d = k := by omega
        refine WC.exit ?_
        refine WX.exit_then (WX.exit_then (WX.exit_block (WX.next (?_))))
        refine WC.seq ?_
        refine WC.region ?_
        refine WL.ex rfl rfl rfl (Ex.loadA ty38 rfl (prf_len (by first | assumption | exact prf0_ok)) (M26.rdw (i := 0) rfl)) ?_
        refine WL.ac0 rfl rfl (Ac.stA M26 ty38 rfl rfl rfl (prf_len (by first | assumption | exact prf0_ok)) (prf_one) (i := 1) rfl (by first | (rw [prf_len (by first | assumption | exact prf0_ok), prf_len (by first | assumption | exact prf0_ok)]; decide) | (rw [prf_len (by first | assumption | exact prf0_ok)]; decide) | rw [prf_len (by first | assumption | exact prf0_ok)])) ?_; rintro v47 w47 ⟨K47, M47⟩
        try dsimp only [List.set] at M47
        rw [splice_all _ _ (by first | rw [prf_len (by first | assumption | exact prf0_ok), prf_len (by first | assumption | exact prf0_ok)] | rw [prf_len (by first | assumption | exact prf0_ok)])] at M47
        refine WL.ex rfl rfl rfl (Ex.asg rfl) ?_
        refine WL.nil ?_
        refine WX.next (?_)
        refine WC.ret ?_
        refine WX.retn rfl (.cell rfl (run_loadVarA ty38 (prf_len (by first | assumption | exact prf0_ok)) (M47.rdw (i := 1) rfl)) (.tmp rfl .nil)) rfl ?_
        rw [hme, hmq]
        exact ⟨rfl, M47.keep⟩

end Go.Proofs.YtfgikoilgmddhaaDoor
