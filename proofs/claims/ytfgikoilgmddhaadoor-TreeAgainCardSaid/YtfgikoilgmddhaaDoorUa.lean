/- Walks, written by gen.py off the translation's own print: each says what the Go function comes to. -/
import Derived.Test.YtfgikoilgmddhaaDoorTh
set_option linter.unusedVariables false
set_option linter.unusedSimpArgs false
namespace Go.Proofs.YtfgikoilgmddhaaDoor
open Go.Sx Go.RowKit
attribute [local irreducible] Ac Ex WL WC WX WP Gives sha

/- sponsion/sponsionlaw10.TreeAgain -/
theorem treeAgain_walk (w : World) (A B : Option Addr) (c c2 : Nat) (ls ms : Hs) (n : Nat) (hr : Rd w A (fl ls)) (hls32 : ∀ a ∈ ls, H32 a) (hr2 : Rd w B (fl ms)) (hms32 : ∀ a ∈ ms, H32 a) (hn : n < 18446744073709551616) (hc : ls.length ≤ c) (hcm : c ≤ maxLen) (hT : Tabs w) :
    Gives Tryd.prog 3 #[.slice A ls.length c, .int .u64 (n : Int), .slice B ms.length c2] w fun u w1 => u = .bool true ∧ Keep nof w w1 := by
  have M0 := Mem.start w nof
  refine Gives.enter (n := 96) Tryd.func3 rfl Tryd.ntmps3 rfl (env := [(0, .slice A ls.length c), (1, .int .u64 (n : Int)), (2, .slice B ms.length c2)]) rfl ?_
  refine WC.seq ?_
  refine WC.region ?_
  refine WL.ex rfl rfl rfl (Ex.asg rfl) ?_
  refine WL.nil ?_
  refine WX.next (?_)
  refine WC.seq ?_
  refine WC.seq ?_
  refine WC.region ?_
  refine WL.ac rfl rfl rfl (Ac.call rfl Tryd.func11 nm11 rfl (lives10_ok w (hT.keep M0.keep))) ?_; rintro v2 w2 ⟨rfl, K2⟩
  have M2 := M0.step K2
  refine WL.ex rfl rfl rfl (Ex.not rfl) ?_
  refine WL.ex rfl rfl rfl (Ex.mv rfl) ?_
  refine WL.yes rfl rfl rfl rfl ?_
  refine WL.ex rfl rfl rfl (Ex.mv rfl) ?_
  refine WL.yes rfl rfl rfl rfl ?_
  refine WL.ex rfl rfl rfl (Ex.len Tryd.underlying22 rfl) ?_
  refine WL.yes rfl rfl rfl rfl ?_
  refine WL.ex rfl rfl rfl (Ex.gtr rfl rfl) ?_
  refine WL.ex rfl rfl rfl (Ex.pickF rfl rfl) ?_
  refine WL.ex rfl rfl rfl (Ex.mv rfl) ?_
  by_cases hgt : (30 : Int) < ls.length
  · rw [decide_eq_true hgt]
    refine WL.no rfl rfl rfl rfl rfl rfl ?_
    refine WL.no rfl rfl rfl rfl rfl rfl ?_
    refine WL.no rfl rfl rfl rfl rfl rfl ?_
    refine WL.ex rfl rfl rfl (Ex.pickT rfl rfl) ?_
    refine WL.nil ?_
    refine WX.next (?_)
    refine WC.yes rfl ?_
    refine WC.seq ?_
    refine WC.region ?_
    refine WL.ac rfl rfl rfl (Ac.call rfl Tryd.func11 nm11 rfl (lives10_ok w2 (hT.keep M2.keep))) ?_; rintro v11 w11 ⟨rfl, K11⟩
    have M11 := M2.step K11
    refine WL.ex rfl rfl rfl (Ex.asg rfl) ?_
    refine WL.nil ?_
    refine WX.next (?_)
    refine WC.ret ?_
    refine WX.ret_then (?_)
    refine WX.ret1 rfl rfl ?_
    exact ⟨rfl, M11.keep⟩
  · rw [decide_eq_false hgt]
    refine WL.yes rfl rfl rfl rfl ?_
    refine WL.ex rfl rfl rfl (Ex.mv rfl) ?_
    refine WL.yes rfl rfl rfl rfl ?_
    refine WL.ex rfl rfl rfl (Ex.len Tryd.underlying22 rfl) ?_
    refine WL.yes rfl rfl rfl rfl ?_
    refine WL.ex rfl rfl rfl (Ex.gtr rfl rfl) ?_
    refine WL.ex rfl rfl rfl (Ex.pickF rfl rfl) ?_
    refine WL.nil ?_
    refine WX.next (?_)
    refine WC.cond_dec rfl (fun hc27 => ?_) (fun hc27 => ?_)
    · skip
      refine WC.seq ?_
      refine WC.region ?_
      refine WL.ac rfl rfl rfl (Ac.call rfl Tryd.func11 nm11 rfl (lives10_ok w2 (hT.keep M2.keep))) ?_; rintro v17 w17 ⟨rfl, K17⟩
      have M17 := M2.step K17
      refine WL.ex rfl rfl rfl (Ex.asg rfl) ?_
      refine WL.nil ?_
      refine WX.next (?_)
      refine WC.ret ?_
      refine WX.ret_then (?_)
      refine WX.ret1 rfl rfl ?_
      exact ⟨rfl, M17.keep⟩
    · have hbd : ls.length ≤ 30 ∧ ms.length ≤ 30 := by omega
      refine WC.skip ?_
      refine WX.next (?_)
      refine WC.seq ?_
      refine WC.region ?_
      refine WL.ac rfl rfl rfl (Ac.call rfl Tryd.func12 nm12 rfl (tNew_ok w2 32 (by decide) (hT.keep M2.keep))) ?_; rintro v19 w19 ⟨ga, gla, gea, rfl, N19⟩
      have M19 := (M2.new N19).openS
      refine WL.ac rfl rfl rfl (Ac.call rfl Tryd.func12 nm12 rfl (tNew_ok w19 32 (by decide) (hT.keep M19.keep))) ?_; rintro v20 w20 ⟨gb, glb, geb, rfl, N20⟩
      have M20 := (M19.new N20).openS
      refine WL.ex rfl rfl rfl (Ex.asg rfl) ?_
      refine WL.ex rfl rfl rfl (Ex.asg rfl) ?_
      refine WL.nil ?_
      refine WX.next (?_)
      refine WC.seq ?_
      refine WC.seq ?_
      refine WC.region ?_
      refine WL.ex rfl rfl rfl (Ex.mv rfl) ?_
      refine WL.ex rfl rfl rfl (Ex.len Tryd.underlying22 rfl) ?_
      refine WL.ex rfl rfl rfl (Ex.mv rfl) ?_
      refine WL.nil ?_
      refine WX.next (?_)
      refine WC.block ?_
      refine WC.loop (σ := Nat × List Value × List Value) (fun s => [(0, .slice A ls.length c), (1, .int .u64 (n : Int)), (2, .slice B ms.length c2), (7, .pointer (some ⟨ga, 0, none⟩)), (8, .pointer (some ⟨gb, 0, none⟩)), (31, .slice A ls.length c), (32, .int .i64 (ls.length : Int)), (33, .int .i64 (s.1 : Int))]) (fun s wr => s.1 ≤ ls.length ∧ Mem w wr nof [blk geb (fl (emps dNode e0 (32 + 1))) 28, treeR gb glb geb 32 s.2.2 (lvOf dNode e0 32 (ls.take s.1)), blk gea (fl (emps dNode e0 (32 + 1))) 28, treeR ga gla gea 32 s.2.1 (lvOf dNode e0 32 (ls.take s.1))]) (fun s => ls.length - s.1) (((0, nilS 33, nilS 33) : Nat × List Value × List Value)) ?_ (.cons rfl (.cons rfl (.cons rfl (.cons rfl (.cons rfl (.cons rfl (.cons rfl (.cons rfl (.nil))))))))) ?_
      · exact ⟨by simp, M20⟩
      rintro ⟨i, va, vb⟩ w26 ⟨hi, M26⟩
      dsimp only at hi M26
      refine WC.sub (env' := [(0, .slice A ls.length c), (1, .int .u64 (n : Int)), (2, .slice B ms.length c2), (7, .pointer (some ⟨ga, 0, none⟩)), (8, .pointer (some ⟨gb, 0, none⟩)), (31, .slice A ls.length c), (32, .int .i64 (ls.length : Int)), (33, .int .i64 (i : Int))]) (.cons rfl (.cons rfl (.cons rfl (.cons rfl (.cons rfl (.cons rfl (.cons rfl (.cons rfl (.nil))))))))) ?_
      refine WC.seq ?_
      refine WC.region ?_
      refine WL.ex rfl rfl rfl (Ex.lss rfl rfl) ?_
      refine WL.nil ?_
      refine WX.next (?_)
      refine WC.seq ?_
      refine WC.cond_dec rfl (fun hc34 => ?_) (fun hc34 => ?_)
      · obtain ⟨p, hpi⟩ : ∃ p, ls[i]? = some p := ⟨_, List.getElem?_eq_getElem (by omega)⟩
        have hpm := List.mem_of_getElem? hpi
        have hp32 := hls32 p hpm
        have htkp := take_snoc hpi
        obtain ⟨bp, op, hpA, _⟩ := hr.plain (by rw [fl_len hls32]; omega)
        subst hpA
        have hti : (ls.take i).length < 2 ^ 32 := by rw [List.length_take]; omega
        refine WC.skip ?_
        refine WX.next (?_)
        refine WC.seq ?_
        refine WC.block ?_
        refine WC.seq ?_
        refine WC.region ?_
        refine WL.ex rfl rfl rfl (Ex.ia Tryd.underlying22 sz28 rfl rfl ⟨by omega, by omega⟩) ?_
        refine WL.ex rfl rfl rfl (Ex.loadA ty28 rfl (l := bytesV p) (by simpa using hp32) (fl_at (hr.keep0 M26.keep) hls32 hpi (by simp))) ?_
        refine WL.ac rfl rfl rfl (Ac.alloc M26 (l := bytesV (List.replicate 32 0)) (by kernel_rfl)) ?_; rintro v30 w30 ⟨gp, rfl, hg30, K30, M30⟩
        refine WL.ac0 rfl rfl (Ac.stA M30 ty28 rfl rfl rfl (h32_len (by first | assumption | exact h32_0)) (bytesV_one _) (i := 0) rfl (by first | (rw [h32_len (by first | assumption | exact h32_0), h32_len (by first | assumption | exact h32_0)]; decide) | (rw [h32_len (by first | assumption | exact h32_0)]; decide) | rw [h32_len (by first | assumption | exact h32_0)])) ?_; rintro v31 w31 ⟨K31, M31⟩
        try dsimp only [List.set] at M31
        rw [splice_all _ _ (by first | rw [h32_len (by first | assumption | exact h32_0), h32_len (by first | assumption | exact h32_0)] | rw [h32_len (by first | assumption | exact h32_0)])] at M31
        refine WL.nil ?_
        refine WX.next (?_)
        refine WC.seq ?_
        refine WC.region ?_
        refine WL.ex rfl rfl rfl (Ex.mv rfl) ?_
        refine WL.ex rfl rfl rfl (Ex.loadA ty28 rfl (h32_len (by first | assumption | exact h32_0)) (M31.rdw (i := 0) rfl)) ?_
        refine WL.ac rfl rfl rfl (Ac.call rfl Tryd.func13 nm13 rfl (tAppend_ok w31 ga gla gea 32 va (ls.take i) p (M31.get (i := 4) rfl) (take32 hls32 i) hp32 (by decide) (hT.keep M31.keep) (M31.tabF hT 4 rfl))) ?_; rintro v34 w34 ⟨va1, rfl, T34⟩
        rw [tApp_ok hti] at T34 ⊢
        dsimp only at T34
        rw [← htkp] at T34
        have M34 := M31.turned (i := 4) rfl T34
        try dsimp only [List.set] at M34
        refine WL.nil ?_
        refine WX.next (?_)
        refine WC.region ?_
        refine WL.ex rfl rfl rfl (Ex.mv rfl) ?_
        refine WL.ex rfl rfl rfl (Ex.loadA ty28 rfl (h32_len (by first | assumption | exact h32_0)) (M34.rdw (i := 0) rfl)) ?_
        refine WL.ac rfl rfl rfl (Ac.call rfl Tryd.func13 nm13 rfl (tAppend_ok w34 gb glb geb 32 vb (ls.take i) p (M34.get (i := 2) rfl) (take32 hls32 i) hp32 (by decide) (hT.keep M34.keep) (M34.tabF hT 2 rfl))) ?_; rintro v37 w37 ⟨vb1, rfl, T37⟩
        rw [tApp_ok hti] at T37 ⊢
        dsimp only at T37
        rw [← htkp] at T37
        have M37 := M34.turned (i := 2) rfl T37
        try dsimp only [List.set] at M37
        refine WL.nil ?_
        refine WX.normal_block (WX.next (?_))
        refine WC.region ?_
        refine WL.ex rfl rfl rfl (Ex.add rfl rfl (i64w _ (by omega) (by omega))) ?_
        refine WL.ex rfl rfl rfl (Ex.mv rfl) ?_
        refine WL.nil ?_
        refine WX.again (((i + 1, va1, vb1) : Nat × List Value × List Value)) ?_ ?_ (.cons rfl (.cons rfl (.cons rfl (.cons rfl (.cons rfl (.cons rfl (.cons rfl (.cons rfl (.nil)))))))))
        · dsimp only; omega
        · exact ⟨by dsimp only; omega, (Mem.sub M37 (.cons _ (.refl _)))⟩
      · obtain rfl : i = ls.length := by omega
        rw [List.take_length] at M26
        have hR32 := nd32 hls32 32 0
        obtain ⟨m, hm⟩ : ∃ m, m = n % (ls.length + 1) := ⟨_, rfl⟩
        have hml : m ≤ ls.length := by have := Nat.mod_lt n (show 0 < ls.length + 1 by omega); omega
        have hlm : ∀ i, ∀ a ∈ ls ++ ms.take i, H32 a := fun i a ha => (List.mem_append.1 ha).elim (hls32 a) (take32 hms32 i a)
        refine WC.exit ?_
        refine WX.exit_then (WX.exit_then (WX.exit_block (WX.next (?_))))
        refine WC.seq ?_
        refine WC.region ?_
        refine WL.ex rfl rfl rfl (Ex.mv rfl) ?_
        refine WL.ex rfl rfl rfl (Ex.mv rfl) ?_
        refine WL.ex rfl rfl rfl (Ex.len Tryd.underlying22 rfl) ?_
        refine WL.ex rfl rfl rfl (Ex.add rfl rfl (c := ((ls.length + 1 : Nat) : Int)) (by rw [i64w _ (by omega) (by omega)]; omega)) ?_
        refine WL.ex rfl rfl rfl (Ex.cvI Tryd.underlying3 Tryd.underlying23 rfl (u64w_lt _ (by omega))) ?_
        refine WL.ex rfl rfl rfl (Ex.rem rfl rfl (by omega) (c := ((m : Nat) : Int)) (by rw [hm]; exact tmodT _ _)) ?_
        refine WL.ex rfl rfl rfl (Ex.asg rfl) ?_
        refine WL.nil ?_
        refine WX.next (?_)
        refine WC.seq ?_
        refine WC.region ?_
        refine WL.ex rfl rfl rfl (Ex.mv rfl) ?_
        refine WL.ac rfl rfl rfl (Ac.call rfl Tryd.func14 nm14 rfl (tRoot_ok w26 ga gla gea 32 va (ls) (TreeS.of (M26.get (i := 3) rfl) (lvOf_len _ _)) (ES.of (M26.get (i := 2) rfl)) hls32 (by decide) (hT.keep M26.keep))) ?_; rintro v48 w48 ⟨rfl, K48⟩
        have M48 := M26.step K48
        refine WL.ac rfl rfl rfl (Ac.alloc M48 (l := bytesV (List.replicate 32 0)) (by kernel_rfl)) ?_; rintro v49 w49 ⟨gR, rfl, hg49, K49, M49⟩
        refine WL.ac0 rfl rfl (Ac.stA M49 ty28 rfl rfl rfl (h32_len (by first | assumption | exact h32_0)) (bytesV_one _) (i := 0) rfl (by first | (rw [h32_len (by first | assumption | exact h32_0), h32_len (by first | assumption | exact h32_0)]; decide) | (rw [h32_len (by first | assumption | exact h32_0)]; decide) | rw [h32_len (by first | assumption | exact h32_0)])) ?_; rintro v50 w50 ⟨K50, M50⟩
        try dsimp only [List.set] at M50
        rw [splice_all _ _ (by first | rw [h32_len (by first | assumption | exact h32_0), h32_len (by first | assumption | exact h32_0)] | rw [h32_len (by first | assumption | exact h32_0)])] at M50
        refine WL.nil ?_
        refine WX.next (?_)
        refine WC.seq ?_
        refine WC.seq ?_
        refine WC.region ?_
        refine WL.ex rfl rfl rfl (Ex.mv rfl) ?_
        refine WL.ex rfl rfl rfl (Ex.len Tryd.underlying22 rfl) ?_
        refine WL.ex rfl rfl rfl (Ex.mv rfl) ?_
        refine WL.nil ?_
        refine WX.next (?_)
        refine WC.block ?_
        refine WC.loop (σ := Nat × List Value) (fun s => [(0, .slice A ls.length c), (1, .int .u64 (m : Int)), (7, .pointer (some ⟨ga, 0, none⟩)), (8, .pointer (some ⟨gb, 0, none⟩)), (11, .pointer (some ⟨gR, 0, none⟩)), (52, .slice B ms.length c2), (53, .int .i64 (ms.length : Int)), (54, .int .i64 (s.1 : Int))]) (fun s wr => s.1 ≤ ms.length ∧ Mem w wr nof [blk gR (bytesV (nd dNode e0 ls 32 0)) 28, blk geb (fl (emps dNode e0 (32 + 1))) 28, treeR gb glb geb 32 vb (lvOf dNode e0 32 (ls)), blk gea (fl (emps dNode e0 (32 + 1))) 28, treeR ga gla gea 32 s.2 (lvOf dNode e0 32 (ls ++ ms.take s.1))]) (fun s => ms.length - s.1) (((0, va) : Nat × List Value)) ?_ (.cons rfl (.cons rfl (.cons rfl (.cons rfl (.cons rfl (.cons rfl (.cons rfl (.cons rfl (.nil))))))))) ?_
        · refine ⟨by simp, ?_⟩
          dsimp only
          rw [List.take_zero, List.append_nil]
          exact M50
        rintro ⟨i, va2⟩ w54 ⟨hi, M54⟩
        dsimp only at hi M54
        refine WC.sub (env' := [(0, .slice A ls.length c), (1, .int .u64 (m : Int)), (7, .pointer (some ⟨ga, 0, none⟩)), (8, .pointer (some ⟨gb, 0, none⟩)), (11, .pointer (some ⟨gR, 0, none⟩)), (52, .slice B ms.length c2), (53, .int .i64 (ms.length : Int)), (54, .int .i64 (i : Int))]) (.cons rfl (.cons rfl (.cons rfl (.cons rfl (.cons rfl (.cons rfl (.cons rfl (.cons rfl (.nil))))))))) ?_
        refine WC.seq ?_
        refine WC.region ?_
        refine WL.ex rfl rfl rfl (Ex.lss rfl rfl) ?_
        refine WL.nil ?_
        refine WX.next (?_)
        refine WC.seq ?_
        refine WC.cond_dec rfl (fun hc55 => ?_) (fun hc55 => ?_)
        · obtain ⟨q, hqi⟩ : ∃ p, ms[i]? = some p := ⟨_, List.getElem?_eq_getElem (by omega)⟩
          have hqm := List.mem_of_getElem? hqi
          have hq32 := hms32 q hqm
          have htkq := take_snoc hqi
          obtain ⟨bq, oq, hqA, _⟩ := hr2.plain (by rw [fl_len hms32]; omega)
          subst hqA
          have hti : (ls ++ ms.take i).length < 2 ^ 32 := by rw [List.length_append, List.length_take]; omega
          refine WC.skip ?_
          refine WX.next (?_)
          refine WC.seq ?_
          refine WC.block ?_
          refine WC.seq ?_
          refine WC.region ?_
          refine WL.ex rfl rfl rfl (Ex.ia Tryd.underlying22 sz28 rfl rfl ⟨by omega, by omega⟩) ?_
          refine WL.ex rfl rfl rfl (Ex.loadA ty28 rfl (l := bytesV q) (by simpa using hq32) (fl_at (hr2.keep0 M54.keep) hms32 hqi (by simp))) ?_
          refine WL.ac rfl rfl rfl (Ac.alloc M54 (l := bytesV (List.replicate 32 0)) (by kernel_rfl)) ?_; rintro v58 w58 ⟨gq, rfl, hg58, K58, M58⟩
          refine WL.ac0 rfl rfl (Ac.stA M58 ty28 rfl rfl rfl (h32_len (by first | assumption | exact h32_0)) (bytesV_one _) (i := 0) rfl (by first | (rw [h32_len (by first | assumption | exact h32_0), h32_len (by first | assumption | exact h32_0)]; decide) | (rw [h32_len (by first | assumption | exact h32_0)]; decide) | rw [h32_len (by first | assumption | exact h32_0)])) ?_; rintro v59 w59 ⟨K59, M59⟩
          try dsimp only [List.set] at M59
          rw [splice_all _ _ (by first | rw [h32_len (by first | assumption | exact h32_0), h32_len (by first | assumption | exact h32_0)] | rw [h32_len (by first | assumption | exact h32_0)])] at M59
          refine WL.nil ?_
          refine WX.next (?_)
          refine WC.region ?_
          refine WL.ex rfl rfl rfl (Ex.mv rfl) ?_
          refine WL.ex rfl rfl rfl (Ex.loadA ty28 rfl (h32_len (by first | assumption | exact h32_0)) (M59.rdw (i := 0) rfl)) ?_
          refine WL.ac rfl rfl rfl (Ac.call rfl Tryd.func13 nm13 rfl (tAppend_ok w59 ga gla gea 32 va2 (ls ++ ms.take i) q (M59.get (i := 5) rfl) (hlm i) hq32 (by decide) (hT.keep M59.keep) (M59.tabF hT 5 rfl))) ?_; rintro v62 w62 ⟨va3, rfl, T62⟩
          rw [tApp_ok hti] at T62 ⊢
          dsimp only at T62
          rw [List.append_assoc, ← htkq] at T62
          have M62 := M59.turned (i := 5) rfl T62
          try dsimp only [List.set] at M62
          refine WL.nil ?_
          refine WX.normal_block (WX.next (?_))
          refine WC.region ?_
          refine WL.ex rfl rfl rfl (Ex.add rfl rfl (i64w _ (by omega) (by omega))) ?_
          refine WL.ex rfl rfl rfl (Ex.mv rfl) ?_
          refine WL.nil ?_
          refine WX.again (((i + 1, va3) : Nat × List Value)) ?_ ?_ (.cons rfl (.cons rfl (.cons rfl (.cons rfl (.cons rfl (.cons rfl (.cons rfl (.cons rfl (.nil)))))))))
          · dsimp only; omega
          · exact ⟨by dsimp only; omega, (Mem.sub M62 (.cons _ (.refl _)))⟩
        · obtain rfl : i = ms.length := by omega
          rw [List.take_length] at M54
          have hlf := hlm ms.length
          rw [List.take_length] at hlf
          have hcd : decide (m ≤ (ls ++ ms).length) = true := decide_eq_true (by rw [List.length_append]; omega)
          have hcut : (ls ++ ms).take m = ls.take m := List.take_append_of_le_length hml
          refine WC.exit ?_
          refine WX.exit_then (WX.exit_then (WX.exit_block (WX.next (?_))))
          refine WC.seq ?_
          refine WC.seq ?_
          refine WC.region ?_
          refine WL.ex rfl rfl rfl (Ex.mv rfl) ?_
          refine WL.ex rfl rfl rfl (Ex.mv rfl) ?_
          refine WL.ac rfl rfl rfl (Ac.call rfl Tryd.func15 nm15 rfl (tCut_ok w54 ga gla gea 32 va2 (ls ++ ms) m (M54.get (i := 4) rfl) hlf (by omega) (by decide))) ?_; rintro v67 w67 ⟨va4, rfl, T67⟩
          rw [hcut] at T67
          rw [hcd]
          have M67 := M54.turned (i := 4) rfl T67
          try dsimp only [List.set] at M67
          refine WL.ex rfl rfl rfl (Ex.not rfl) ?_
          refine WL.nil ?_
          refine WX.next (?_)
          refine WC.no rfl ?_
          refine WC.skip ?_
          refine WX.next (?_)
          refine WC.seq ?_
          refine WC.seq ?_
          refine WC.region ?_
          refine WL.ex rfl rfl rfl (Ex.mv rfl) ?_
          refine WL.ex rfl rfl rfl (Ex.mv rfl) ?_
          refine WL.ex rfl rfl rfl (Ex.sll (A := A) (l := ls.length) (c := c) Tryd.underlying22 sz28 rfl rfl (by omega) (by omega)) ?_
          rw [Int.toNat_natCast]
          have hrd := Rd.cut hr (k := m) (m := c) (sz := 32) (fun hcm' => by rw [fl_len hls32]; exact Nat.mul_le_mul_right _ (by omega))
          rw [← fl_drop hls32] at hrd
          obtain ⟨A9, hA9⟩ : ∃ A9, A9 = (if c = m then A else A.map (·.add (m * 32))) := ⟨_, rfl⟩
          rw [← hA9] at hrd ⊢
          obtain ⟨ds, hds⟩ : ∃ ds, ds = ls.drop m := ⟨_, rfl⟩
          have hdl : ds.length = ls.length - m := by rw [hds, List.length_drop]
          have hds32 : ∀ a ∈ ds, H32 a := fun a ha => hls32 a (by rw [hds] at ha; exact List.mem_of_mem_drop ha)
          have hall : ls.take m ++ ds = ls := by rw [hds, List.take_append_drop]
          have hmt : (ls.take m).length = m := by rw [List.length_take]; omega
          rw [← hds] at hrd
          rw [← hdl]
          have hlm2 : ∀ i, ∀ a ∈ ls.take m ++ ds.take i, H32 a := fun i a ha => (List.mem_append.1 ha).elim (take32 hls32 m a) (take32 hds32 i a)
          refine WL.ex rfl rfl rfl (Ex.len Tryd.underlying22 rfl) ?_
          refine WL.ex rfl rfl rfl (Ex.mv rfl) ?_
          refine WL.nil ?_
          refine WX.next (?_)
          refine WC.block ?_
          refine WC.loop (σ := Nat × List Value) (fun s => [(0, .slice A ls.length c), (7, .pointer (some ⟨ga, 0, none⟩)), (8, .pointer (some ⟨gb, 0, none⟩)), (11, .pointer (some ⟨gR, 0, none⟩)), (68, .slice A9 ds.length (c - m)), (69, .int .i64 (ds.length : Int)), (70, .int .i64 (s.1 : Int))]) (fun s wr => s.1 ≤ ds.length ∧ Mem w wr nof [blk gR (bytesV (nd dNode e0 ls 32 0)) 28, blk geb (fl (emps dNode e0 (32 + 1))) 28, treeR gb glb geb 32 vb (lvOf dNode e0 32 (ls)), blk gea (fl (emps dNode e0 (32 + 1))) 28, treeR ga gla gea 32 s.2 (lvOf dNode e0 32 (ls.take m ++ ds.take s.1))]) (fun s => ds.length - s.1) (((0, va4) : Nat × List Value)) ?_ (.cons rfl (.cons rfl (.cons rfl (.cons rfl (.cons rfl (.cons rfl (.cons rfl (.nil)))))))) ?_
          · refine ⟨by simp, ?_⟩
            dsimp only
            rw [List.take_zero, List.append_nil]
            exact M67
          rintro ⟨i, va5⟩ w74 ⟨hi, M74⟩
          dsimp only at hi M74
          refine WC.sub (env' := [(0, .slice A ls.length c), (7, .pointer (some ⟨ga, 0, none⟩)), (8, .pointer (some ⟨gb, 0, none⟩)), (11, .pointer (some ⟨gR, 0, none⟩)), (68, .slice A9 ds.length (c - m)), (69, .int .i64 (ds.length : Int)), (70, .int .i64 (i : Int))]) (.cons rfl (.cons rfl (.cons rfl (.cons rfl (.cons rfl (.cons rfl (.cons rfl (.nil)))))))) ?_
          refine WC.seq ?_
          refine WC.region ?_
          refine WL.ex rfl rfl rfl (Ex.lss rfl rfl) ?_
          refine WL.nil ?_
          refine WX.next (?_)
          refine WC.seq ?_
          refine WC.cond_dec rfl (fun hc71 => ?_) (fun hc71 => ?_)
          · obtain ⟨r, hri⟩ : ∃ p, ds[i]? = some p := ⟨_, List.getElem?_eq_getElem (by omega)⟩
            have hrm := List.mem_of_getElem? hri
            have hr32 := hds32 r hrm
            have htkr := take_snoc hri
            obtain ⟨br, or, hrA, _⟩ := hrd.plain (by rw [fl_len hds32]; omega)
            subst hrA
            have hti : (ls.take m ++ ds.take i).length < 2 ^ 32 := by rw [List.length_append, hmt, List.length_take]; omega
            refine WC.skip ?_
            refine WX.next (?_)
            refine WC.seq ?_
            refine WC.block ?_
            refine WC.seq ?_
            refine WC.region ?_
            refine WL.ex rfl rfl rfl (Ex.ia Tryd.underlying22 sz28 rfl rfl ⟨by omega, by omega⟩) ?_
            refine WL.ex rfl rfl rfl (Ex.loadA ty28 rfl (l := bytesV r) (by simpa using hr32) (fl_at (hrd.keep0 M74.keep) hds32 hri (by simp))) ?_
            refine WL.ac rfl rfl rfl (Ac.alloc M74 (l := bytesV (List.replicate 32 0)) (by kernel_rfl)) ?_; rintro v78 w78 ⟨gr, rfl, hg78, K78, M78⟩
            refine WL.ac0 rfl rfl (Ac.stA M78 ty28 rfl rfl rfl (h32_len (by first | assumption | exact h32_0)) (bytesV_one _) (i := 0) rfl (by first | (rw [h32_len (by first | assumption | exact h32_0), h32_len (by first | assumption | exact h32_0)]; decide) | (rw [h32_len (by first | assumption | exact h32_0)]; decide) | rw [h32_len (by first | assumption | exact h32_0)])) ?_; rintro v79 w79 ⟨K79, M79⟩
            try dsimp only [List.set] at M79
            rw [splice_all _ _ (by first | rw [h32_len (by first | assumption | exact h32_0), h32_len (by first | assumption | exact h32_0)] | rw [h32_len (by first | assumption | exact h32_0)])] at M79
            refine WL.nil ?_
            refine WX.next (?_)
            refine WC.region ?_
            refine WL.ex rfl rfl rfl (Ex.mv rfl) ?_
            refine WL.ex rfl rfl rfl (Ex.loadA ty28 rfl (h32_len (by first | assumption | exact h32_0)) (M79.rdw (i := 0) rfl)) ?_
            refine WL.ac rfl rfl rfl (Ac.call rfl Tryd.func13 nm13 rfl (tAppend_ok w79 ga gla gea 32 va5 (ls.take m ++ ds.take i) r (M79.get (i := 5) rfl) (hlm2 i) hr32 (by decide) (hT.keep M79.keep) (M79.tabF hT 5 rfl))) ?_; rintro v82 w82 ⟨va6, rfl, T82⟩
            rw [tApp_ok hti] at T82 ⊢
            dsimp only at T82
            rw [List.append_assoc, ← htkr] at T82
            have M82 := M79.turned (i := 5) rfl T82
            try dsimp only [List.set] at M82
            refine WL.nil ?_
            refine WX.normal_block (WX.next (?_))
            refine WC.region ?_
            refine WL.ex rfl rfl rfl (Ex.add rfl rfl (i64w _ (by omega) (by omega))) ?_
            refine WL.ex rfl rfl rfl (Ex.mv rfl) ?_
            refine WL.nil ?_
            refine WX.again (((i + 1, va6) : Nat × List Value)) ?_ ?_ (.cons rfl (.cons rfl (.cons rfl (.cons rfl (.cons rfl (.cons rfl (.cons rfl (.nil))))))))
            · dsimp only; omega
            · exact ⟨by dsimp only; omega, (Mem.sub M82 (.cons _ (.refl _)))⟩
          · obtain rfl : i = ds.length := by omega
            rw [List.take_length, hall] at M74
            refine WC.exit ?_
            refine WX.exit_then (WX.exit_then (WX.exit_block (WX.next (?_))))
            refine WC.seq ?_
            refine WC.draw (Keep nof w74.drew) [] (.one 0 0 (.one 2 1 (.one 1 2 (.one 3 0 (.one 4 0 (.one 5 0 (.one 7 1 (.one 6 2 (.one 8 0 (.one 9 0 (.one 10 0 (.one 11 0 (.one 13 0 (.one 14 0 (.one 15 0 (.one 12 2 (.one 16 0 (.one 17 0 (.one 18 0 .nil))))))))))))))))))) mixed (by kernel_rfl) (by kernel_rfl) (by kernel_rfl) (HQ.then_ HQ.body) ?_
            obtain ⟨w85, hw85⟩ : ∃ v, v = w74.drew := ⟨_, rfl⟩
            have D85 : Keep nof w74 w85 := by rw [hw85]; exact Keep.drew _ _
            have M85 := M74.step D85
            rw [← hw85]; clear hw85
            refine WP.p rfl rfl rfl rfl (fun _ => Ex.mv rfl) ?_
            refine WP.q (Keep.refl _ _) rfl rfl rfl rfl (fun w' hS => Ex.loadA ty28 rfl (h32_len (by first | assumption | exact h32_0)) ((M85.rdw (i := 0) rfl).keep0 hS)) ?_
            refine WP.as rfl rfl rfl rfl (Ac.call rfl Tryd.func14 nm14 rfl (tRoot_ok w85 ga gla gea 32 va5 (ls) (TreeS.of (M85.get (i := 4) rfl) (lvOf_len _ _)) (ES.of (M85.get (i := 3) rfl)) hls32 (by decide) (hT.keep M85.keep))) ?_; rintro v88 w88 ⟨rfl, K88⟩
            refine ⟨Keep nof w88, fun u h => K88.trans h, Keep.refl _ _, ?_⟩
            have M88 := M85.step K88
            refine WP.p rfl rfl rfl rfl (fun _ => Ex.eqA rfl rfl (eqHash w hR32 hR32)) ?_
            rw [decide_eq_true rfl]
            refine WP.p rfl rfl rfl rfl (fun _ => Ex.mv rfl) ?_
            refine WP.py rfl rfl rfl rfl rfl rfl (fun _ => Ex.mv rfl) ?_
            refine WP.qy (Keep.refl _ _) rfl rfl rfl rfl rfl rfl (fun w' hS => Ex.loadA ty28 rfl (h32_len (by first | assumption | exact h32_0)) ((M88.rdw (i := 0) rfl).keep0 hS)) ?_
            refine WP.ays rfl rfl rfl rfl rfl rfl (Ac.call rfl Tryd.func14 nm14 rfl (tRoot_ok w88 gb glb geb 32 vb (ls) (TreeS.of (M88.get (i := 2) rfl) (lvOf_len _ _)) (ES.of (M88.get (i := 1) rfl)) hls32 (by decide) (hT.keep M88.keep))) ?_; rintro v93 w93 ⟨rfl, K93⟩
            refine ⟨Keep nof w93, fun u h => K93.trans h, Keep.refl _ _, ?_⟩
            have M93 := M88.step K93
            refine WP.py rfl rfl rfl rfl rfl rfl (fun _ => Ex.eqA rfl rfl (eqHash w hR32 hR32)) ?_
            rw [decide_eq_true rfl]
            refine WP.p rfl rfl rfl rfl (fun _ => Ex.pickT rfl rfl) ?_
            refine WP.p rfl rfl rfl rfl (fun _ => Ex.mv rfl) ?_
            refine WP.py rfl rfl rfl rfl rfl rfl (fun _ => Ex.mv rfl) ?_
            refine WP.py rfl rfl rfl rfl rfl rfl (fun _ => Ex.mv rfl) ?_
            refine WP.py rfl rfl rfl rfl rfl rfl (fun _ => Ex.len Tryd.underlying22 rfl) ?_
            refine WP.py rfl rfl rfl rfl rfl rfl (fun _ => Ex.cvI Tryd.underlying3 Tryd.underlying23 rfl (u64w_lt _ (by omega))) ?_
            refine WP.ays rfl rfl rfl rfl rfl rfl (Ac.call rfl Tryd.func16 nm16 rfl (tLen_ok w93 ga gla gea 32 va5 _ (ls) (TreeS.of (M93.get (i := 4) rfl) (lvOf_len _ _)) (by rw [lvOf_get (by decide), levOf_zero]))) ?_; rintro v101 w101 ⟨rfl, K101⟩
            refine ⟨Keep nof w101, fun u h => K101.trans h, Keep.refl _ _, ?_⟩
            have M101 := M93.step K101
            refine WP.py rfl rfl rfl rfl rfl rfl (fun _ => Ex.eqI rfl rfl) ?_
            rw [decide_eq_true rfl]
            refine WP.p rfl rfl rfl rfl (fun _ => Ex.pickT rfl rfl) ?_
            refine WP.p rfl rfl rfl rfl (fun _ => Ex.asg rfl) ?_
            refine WP.nil ?_
            refine WX.next (?_)
            refine WC.ret ?_
            refine WX.ret1 rfl rfl ?_
            exact ⟨rfl, M101.keep⟩

end Go.Proofs.YtfgikoilgmddhaaDoor
