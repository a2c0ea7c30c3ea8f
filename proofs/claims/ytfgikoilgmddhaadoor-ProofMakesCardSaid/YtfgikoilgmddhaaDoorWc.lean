/- Walks, written by gen.py off the translation's own print: each says what the Go function comes to. -/
import Derived.Test.YtfgikoilgmddhaaDoorWb
set_option linter.unusedVariables false
set_option linter.unusedSimpArgs false
namespace Go.Proofs.YtfgikoilgmddhaaDoor
open Go.Sx Go.RowKit
attribute [local irreducible] Ac Ex WL WC WX WP Gives sha

/- sponsion/proof.Make#nil -/
theorem pMakeNil_ok (w : World) (n i : Nat) :
    Gives Tryd.prog 19 #[.pointer none, .int .u64 (n : Int), .int .u64 (i : Int)] w fun u w1 => u = .tuple #[.agg (prfC (List.replicate 32 (List.replicate 32 0))).toArray, .int .i64 1] ∧ Keep nof w w1 := by
  have M0 := Mem.start w nof
  have hp0 := prf0_ok
  refine Gives.enter (n := 45) Tryd.func19 rfl Tryd.ntmps19 rfl (env := [(0, .pointer none), (1, .int .u64 (n : Int)), (2, .int .u64 (i : Int))]) rfl ?_
  refine WC.seq ?_
  refine WC.region ?_
  refine WL.ac rfl rfl rfl (Ac.alloc M0 (l := prfC prf0) (by kernel_rfl)) ?_; rintro v1 w1 ⟨go, rfl, hg1, K1, M1⟩
  refine WL.ex rfl rfl rfl (Ex.asg rfl) ?_
  refine WL.nil ?_
  refine WX.next (?_)
  refine WC.seq ?_
  refine WC.region ?_
  refine WL.ac rfl rfl rfl (Ac.alloc M1 (l := prfC prf0) (by kernel_rfl)) ?_; rintro v3 w3 ⟨gp, rfl, hg3, K3, M3⟩
  refine WL.nil ?_
  refine WX.next (?_)
  refine WC.seq ?_
  refine WC.block ?_
  refine WC.seq ?_
  refine WC.region ?_
  refine WL.ex rfl rfl rfl (Ex.mv rfl) ?_
  refine WL.ex rfl rfl rfl (Ex.eqPn Tryd.underlying25 rfl) ?_
  refine WL.ex rfl rfl rfl (Ex.mv rfl) ?_
  refine WL.no rfl rfl rfl rfl rfl rfl ?_
  refine WL.no rfl rfl rfl rfl rfl rfl ?_
  refine WL.no rfl rfl rfl rfl rfl rfl ?_
  refine WL.no rfl rfl rfl rfl rfl rfl ?_
  refine WL.ex rfl rfl rfl (Ex.pickT rfl rfl) ?_
  refine WL.ex rfl rfl rfl (Ex.asg rfl) ?_
  refine WL.nil ?_
  refine WX.next (?_)
  refine WC.yes rfl ?_
  refine WC.seq ?_
  refine WC.region ?_
  refine WL.ex rfl rfl rfl (Ex.loadA ty38 rfl (prf_len (by first | assumption | exact prf0_ok)) (M3.rdw (i := 0) rfl)) ?_
  refine WL.ac0 rfl rfl (Ac.stA M3 ty38 rfl rfl rfl (prf_len (by first | assumption | exact prf0_ok)) (prf_one) (i := 1) rfl (by first | (rw [prf_len (by first | assumption | exact prf0_ok), prf_len (by first | assumption | exact prf0_ok)]; decide) | (rw [prf_len (by first | assumption | exact prf0_ok)]; decide) | rw [prf_len (by first | assumption | exact prf0_ok)])) ?_; rintro v10 w10 ⟨K10, M10⟩
  try dsimp only [List.set] at M10
  rw [splice_all _ _ (by first | rw [prf_len (by first | assumption | exact prf0_ok), prf_len (by first | assumption | exact prf0_ok)] | rw [prf_len (by first | assumption | exact prf0_ok)])] at M10
  refine WL.ex rfl rfl rfl (Ex.asg rfl) ?_
  refine WL.nil ?_
  refine WX.next (?_)
  refine WC.ret ?_
  refine WX.ret_block (WX.ret_then (?_))
  refine WX.retn rfl (.cell rfl (run_loadVarA ty38 (prf_len (by first | assumption | exact prf0_ok)) (M10.rdw (i := 1) rfl)) (.tmp rfl .nil)) rfl ?_
  exact ⟨rfl, M10.keep⟩

theorem xor_lt {d i k : Nat} (hk : k < d) (hi : i < 2 ^ d) : (i / 2 ^ k) ^^^ 1 < 2 ^ (d - k) := by
  have h1 : i / 2 ^ k < 2 ^ (d - k) := by
    apply (Nat.div_lt_iff_lt_mul (Nat.pow_pos (by decide))).2
    rw [← Nat.pow_add, Nat.sub_add_cancel (by omega)]
    exact hi
  have h2 : 2 ^ (d - k) = 2 * 2 ^ (d - k - 1) := by rw [← Nat.pow_succ']; congr 1; omega
  rw [h2] at h1 ⊢
  generalize i / 2 ^ k = x at h1 ⊢
  generalize 2 ^ (d - k - 1) = P at h1 ⊢
  rcases Nat.mod_two_eq_zero_or_one x with h | h
  · rw [xor1_even h]; omega
  · rw [xor1_odd h]; omega
theorem xor_pow {d i k : Nat} (hd : d ≤ 32) (hk : k < d) (hi : i < 2 ^ d) : ((i / 2 ^ k) ^^^ 1) + 1 ≤ 4294967296 ∧ (((i / 2 ^ k) ^^^ 1) + 1) * 2 ^ k ≤ 4294967296 := by
  have h := xor_lt hk hi
  have h1 : (((i / 2 ^ k) ^^^ 1) + 1) * 2 ^ k ≤ 2 ^ (d - k) * 2 ^ k := Nat.mul_le_mul_right _ h
  rw [← Nat.pow_add, Nat.sub_add_cancel (by omega)] at h1
  have h2 := pow32 hd
  have h3 : 2 ^ (d - k) ≤ 2 ^ 32 := Nat.pow_le_pow_right (by decide) (by omega)
  exact ⟨by omega, by omega⟩

/- sponsion/sponsionref11.Make -/
theorem rMake_ok (w : World) (d : Nat) (A : Option Addr) (c : Nat) (ls ls1 : Hs) (n i : Nat) (hr : Rd w A (fl ls1)) (hls : ∀ a ∈ ls, H32 a) (hl : ls1 = ls.take n) (hlen : ls1.length ≤ 4294967296) (hd : d ≤ 32) (hi : i < 2 ^ d) (hR : TabR w) :
    Gives Tryd.prog 21 #[.int .i64 (d : Int), .slice A ls1.length c, .int .u64 (i : Int)] w fun u w1 => u = .agg (prfC (fillTo 32 d (pF ls n i) (List.replicate 32 0))).toArray ∧ Keep nof w w1 := by
  have M0 := Mem.start w nof
  have h1s : ∀ a ∈ ls1, H32 a := by rw [hl]; exact take32 hls n
  have hqo := fillP_ok hls n i d
  have hp2 := pow32 hd
  refine Gives.enter (n := 34) Tryd.func21 rfl Tryd.ntmps21 rfl (env := [(0, .int .i64 (d : Int)), (1, .slice A ls1.length c), (2, .int .u64 (i : Int))]) rfl ?_
  refine WC.seq ?_
  refine WC.region ?_
  refine WL.ac rfl rfl rfl (Ac.alloc M0 (l := prfC prf0) (by kernel_rfl)) ?_; rintro v1 w1 ⟨go, rfl, hg1, K1, M1⟩
  refine WL.nil ?_
  refine WX.next (?_)
  refine WC.seq ?_
  refine WC.region ?_
  refine WL.ac rfl rfl rfl (Ac.alloc M1 (l := prfC prf0) (by kernel_rfl)) ?_; rintro v2 w2 ⟨gp, rfl, hg2, K2, M2⟩
  refine WL.nil ?_
  refine WX.next (?_)
  refine WC.seq ?_
  refine WC.seq ?_
  refine WC.region ?_
  refine WL.ex rfl rfl rfl (Ex.mv rfl) ?_
  refine WL.ex rfl rfl rfl (Ex.mv rfl) ?_
  refine WL.nil ?_
  refine WX.next (?_)
  refine WC.block ?_
  refine WC.loop (σ := Nat × Nat) (fun s => [(1, .slice A ls1.length c), (2, .int .u64 (s.2 : Int)), (6, .pointer (some ⟨go, 0, none⟩)), (7, .pointer (some ⟨gp, 0, none⟩)), (9, .int .i64 (d : Int)), (10, .int .i64 (s.1 : Int))]) (fun s wr => s.1 ≤ d ∧ s.2 = i / 2 ^ s.1 ∧ Mem w wr nof [blk gp (prfC (fillTo 32 s.1 (pF ls n i) (List.replicate 32 0))) 38, blk go (prfC ((List.replicate 32 (List.replicate 32 0)))) 38]) (fun s => d - s.1) (((0, i) : Nat × Nat)) ?_ (.cons rfl (.cons rfl (.cons rfl (.cons rfl (.cons rfl (.cons rfl (.nil))))))) ?_
  · refine ⟨by simp, by simp, ?_⟩
    dsimp only
    rw [fillTo_zero]
    exact M2
  rintro ⟨k, j⟩ w5 ⟨hk, hj, M5⟩
  dsimp only at hk hj M5
  refine WC.sub (env' := [(1, .slice A ls1.length c), (2, .int .u64 (j : Int)), (6, .pointer (some ⟨go, 0, none⟩)), (7, .pointer (some ⟨gp, 0, none⟩)), (9, .int .i64 (d : Int)), (10, .int .i64 (k : Int))]) (.cons rfl (.cons rfl (.cons rfl (.cons rfl (.cons rfl (.cons rfl (.nil))))))) ?_
  refine WC.seq ?_
  refine WC.region ?_
  refine WL.ex rfl rfl rfl (Ex.lss rfl rfl) ?_
  refine WL.nil ?_
  refine WX.next (?_)
  refine WC.seq ?_
  refine WC.cond_dec rfl (fun hc11 => ?_) (fun hc11 => ?_)
  · have hf32 := pF32 hls n i k
    have hpo := fillP_ok hls n i k
    have hxp := xor_pow hd (by omega : k < d) hi
    have hjl := Nat.div_le_self i (2 ^ k)
    rw [← hj] at hxp hjl
    refine WC.skip ?_
    refine WX.next (?_)
    refine WC.seq ?_
    refine WC.block ?_
    refine WC.seq ?_
    refine WC.region ?_
    refine WL.ex rfl rfl rfl (Ex.mv rfl) ?_
    refine WL.ex rfl rfl rfl (Ex.asg rfl) ?_
    refine WL.nil ?_
    refine WX.next (?_)
    refine WC.seq ?_
    refine WC.seq ?_
    refine WC.region ?_
    refine WL.ex rfl rfl rfl (Ex.mv rfl) ?_
    refine WL.ex rfl rfl rfl (Ex.rem rfl rfl (by decide) (c := ((j % 2 : Nat) : Int)) (tmodT _ 2)) ?_
    refine WL.ex rfl rfl rfl (Ex.eqI rfl rfl) ?_
    refine WL.nil ?_
    refine WX.next (?_)
    refine WC.cond_dec rfl (fun h15 => ?_) (fun h15 => ?_)
    · have hx := xor1_even (x := j) (by omega)
      refine WC.region ?_
      refine WL.ex rfl rfl rfl (Ex.mv rfl) ?_
      refine WL.ex rfl rfl rfl (Ex.mv rfl) ?_
      refine WL.ex rfl rfl rfl (Ex.mv rfl) ?_
      refine WL.ex rfl rfl rfl (Ex.mv rfl) ?_
      refine WL.ex rfl rfl rfl (Ex.add rfl rfl (c := ((j + 1 : Nat) : Int)) (by rw [show (j : Int) + 1 = ((j + 1 : Nat) : Int) by omega]; exact u64w_lt _ (by omega))) ?_
      refine WL.ac rfl rfl rfl (Ac.call rfl Tryd.func25 nm25 rfl (rNode_ok w5 A c ls1 k (j + 1) (hr.keep0 M5.keep) h1s hlen (by omega) (by rw [← hx]; exact hxp.2) (hR.keep0 M5.keep))) ?_; rintro v17 w17 ⟨rfl, K17⟩
      rw [show nd dNode e0 ls1 k (j + 1) = pF ls n i k by rw [pF, ← hl, ← hj, hx]]
      have M17 := M5.step K17
      refine WL.ex rfl rfl rfl (Ex.iaA Tryd.underlying38 sz28 rfl rfl ⟨by omega, by omega⟩) ?_
      refine WL.ac0 rfl rfl (Ac.stA M17 ty28 rfl rfl (vs := bytesV (pF ls n i k)) rfl (h32_len hf32) (bytesV_one _) (i := 0) rfl (by rw [h32_len hf32, prf_len hpo]; simp; omega)) ?_; rintro v19 w19 ⟨K19, M19⟩
      try dsimp only [List.set] at M19
      rw [prfC, flat_set (fun a ha => h32_len (hpo.mem a ha)) (h32_len hf32) (i := k) (by rw [hpo.len]; omega) (by simp)] at M19
      rw [show (fillTo 32 k (pF ls n i) (List.replicate 32 0)).set k (pF ls n i k) = fillTo 32 (k + 1) (pF ls n i) (List.replicate 32 0) from fillTo_set 32 k (pF ls n i) _] at M19
      refine WL.nil ?_
      refine WX.next (?_)
      refine WC.region ?_
      refine WL.ex rfl rfl rfl (Ex.mv rfl) ?_
      refine WL.ex rfl rfl rfl (Ex.quo rfl rfl (by decide) (c := ((j / 2 : Nat) : Int)) (u64quo _ 2 (by omega))) ?_
      refine WL.ex rfl rfl rfl (Ex.asg rfl) ?_
      refine WL.nil ?_
      refine WX.normal_block (WX.next (?_))
      refine WC.region ?_
      refine WL.ex rfl rfl rfl (Ex.add rfl rfl (i64w _ (by omega) (by omega))) ?_
      refine WL.ex rfl rfl rfl (Ex.mv rfl) ?_
      refine WL.nil ?_
      refine WX.again (((k + 1, j / 2) : Nat × Nat)) ?_ ?_ (.cons rfl (.cons rfl (.cons rfl (.cons rfl (.cons rfl (.cons rfl (.nil)))))))
      · dsimp only; omega
      · exact ⟨by dsimp only; omega, by dsimp only; rw [div_up, hj], M19⟩
    · have hx := xor1_odd (x := j) (by omega)
      refine WC.region ?_
      refine WL.ex rfl rfl rfl (Ex.mv rfl) ?_
      refine WL.ex rfl rfl rfl (Ex.mv rfl) ?_
      refine WL.ex rfl rfl rfl (Ex.mv rfl) ?_
      refine WL.ex rfl rfl rfl (Ex.mv rfl) ?_
      refine WL.ex rfl rfl rfl (Ex.sub rfl rfl (c := ((j - 1 : Nat) : Int)) (u64sub (b := 1) (by omega) (by omega))) ?_
      refine WL.ac rfl rfl rfl (Ac.call rfl Tryd.func25 nm25 rfl (rNode_ok w5 A c ls1 k (j - 1) (hr.keep0 M5.keep) h1s hlen (by omega) (by rw [← hx]; exact hxp.2) (hR.keep0 M5.keep))) ?_; rintro v30 w30 ⟨rfl, K30⟩
      rw [show nd dNode e0 ls1 k (j - 1) = pF ls n i k by rw [pF, ← hl, ← hj, hx]]
      have M30 := M5.step K30
      refine WL.ex rfl rfl rfl (Ex.iaA Tryd.underlying38 sz28 rfl rfl ⟨by omega, by omega⟩) ?_
      refine WL.ac0 rfl rfl (Ac.stA M30 ty28 rfl rfl (vs := bytesV (pF ls n i k)) rfl (h32_len hf32) (bytesV_one _) (i := 0) rfl (by rw [h32_len hf32, prf_len hpo]; simp; omega)) ?_; rintro v32 w32 ⟨K32, M32⟩
      try dsimp only [List.set] at M32
      rw [prfC, flat_set (fun a ha => h32_len (hpo.mem a ha)) (h32_len hf32) (i := k) (by rw [hpo.len]; omega) (by simp)] at M32
      rw [show (fillTo 32 k (pF ls n i) (List.replicate 32 0)).set k (pF ls n i k) = fillTo 32 (k + 1) (pF ls n i) (List.replicate 32 0) from fillTo_set 32 k (pF ls n i) _] at M32
      refine WL.nil ?_
      refine WX.next (?_)
      refine WC.region ?_
      refine WL.ex rfl rfl rfl (Ex.mv rfl) ?_
      refine WL.ex rfl rfl rfl (Ex.quo rfl rfl (by decide) (c := ((j / 2 : Nat) : Int)) (u64quo _ 2 (by omega))) ?_
      refine WL.ex rfl rfl rfl (Ex.asg rfl) ?_
      refine WL.nil ?_
      refine WX.normal_block (WX.next (?_))
      refine WC.region ?_
      refine WL.ex rfl rfl rfl (Ex.add rfl rfl (i64w _ (by omega) (by omega))) ?_
      refine WL.ex rfl rfl rfl (Ex.mv rfl) ?_
      refine WL.nil ?_
      refine WX.again (((k + 1, j / 2) : Nat × Nat)) ?_ ?_ (.cons rfl (.cons rfl (.cons rfl (.cons rfl (.cons rfl (.cons rfl (.nil)))))))
      · dsimp only; omega
      · exact ⟨by dsimp only; omega, by dsimp only; rw [div_up, hj], M32⟩
  · obtain rfl : d = k := by omega
    refine WC.exit ?_
    refine WX.exit_then (WX.exit_then (WX.exit_block (WX.next (?_))))
    refine WC.seq ?_
    refine WC.region ?_
    refine WL.ex rfl rfl rfl (Ex.loadA ty38 rfl (prf_len (by first | assumption | exact prf0_ok)) (M5.rdw (i := 0) rfl)) ?_
    refine WL.ac0 rfl rfl (Ac.stA M5 ty38 rfl rfl rfl (prf_len (by first | assumption | exact prf0_ok)) (prf_one) (i := 1) rfl (by first | (rw [prf_len (by first | assumption | exact prf0_ok), prf_len (by first | assumption | exact prf0_ok)]; decide) | (rw [prf_len (by first | assumption | exact prf0_ok)]; decide) | rw [prf_len (by first | assumption | exact prf0_ok)])) ?_; rintro v39 w39 ⟨K39, M39⟩
    try dsimp only [List.set] at M39
    rw [splice_all _ _ (by first | rw [prf_len (by first | assumption | exact prf0_ok), prf_len (by first | assumption | exact prf0_ok)] | rw [prf_len (by first | assumption | exact prf0_ok)])] at M39
    refine WL.nil ?_
    refine WX.next (?_)
    refine WC.ret ?_
    refine WX.retc rfl rfl (run_loadVarA ty38 (prf_len (by first | assumption | exact prf0_ok)) (M39.rdw (i := 1) rfl)) ?_
    exact ⟨rfl, M39.keep⟩

end Go.Proofs.YtfgikoilgmddhaaDoor
