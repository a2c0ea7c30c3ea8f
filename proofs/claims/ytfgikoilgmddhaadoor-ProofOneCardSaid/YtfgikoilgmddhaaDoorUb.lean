/- Walks, written by gen.py off the translation's own print: each says what the Go function comes to. -/
import Derived.Test.YtfgikoilgmddhaaDoorTi
set_option linter.unusedVariables false
set_option linter.unusedSimpArgs false
namespace Go.Proofs.YtfgikoilgmddhaaDoor
open Go.Sx Go.RowKit
attribute [local irreducible] Ac Ex WL WC WX WP Gives sha

theorem tApp_a {d : Nat} {ls : Hs} {h : List UInt8} (hl : ls.length < 2 ^ d) : (tApp d ls h).1 = ls.length := by rw [tApp_ok hl]
theorem tApp_b {d : Nat} {ls : Hs} {h : List UInt8} (hl : ls.length < 2 ^ d) : (tApp d ls h).2.1 = 0 := by rw [tApp_ok hl]
theorem tApp_c {d : Nat} {ls : Hs} {h : List UInt8} (hl : ls.length < 2 ^ d) : (tApp d ls h).2.2 = ls ++ [h] := by rw [tApp_ok hl]
theorem tFull {d : Nat} {ls : Hs} {h : List UInt8} (hl : ¬ ls.length < 2 ^ d) : tApp d ls h = (0, 7, ls) := if_neg hl
theorem tFull_a {d : Nat} {ls : Hs} {h : List UInt8} (hl : ¬ ls.length < 2 ^ d) : (tApp d ls h).1 = 0 := by rw [tFull hl]
theorem tFull_b {d : Nat} {ls : Hs} {h : List UInt8} (hl : ¬ ls.length < 2 ^ d) : (tApp d ls h).2.1 = 7 := by rw [tFull hl]
theorem tFull_c {d : Nat} {ls : Hs} {h : List UInt8} (hl : ¬ ls.length < 2 ^ d) : (tApp d ls h).2.2 = ls := by rw [tFull hl]
theorem nd_rep {α : Type} {N : α → α → α} {e h : α} {n : Nat} : ∀ (k p : Nat), (p + 1) * 2 ^ k ≤ n → nd N e (List.replicate n h) k p = emp N h k
  | 0, p, hp => by
    simp only [nd, emp, List.getD]
    rw [List.getElem?_replicate, if_pos (by omega)]
    rfl
  | k + 1, p, hp => by
    have h2 : (p + 1) * 2 ^ (k + 1) = (2 * p + 1 + 1) * 2 ^ k := by rw [Nat.pow_succ, Nat.mul_comm (2 ^ k) 2, ← Nat.mul_assoc]; congr 1; omega
    have h3 : (2 * p + 1) * 2 ^ k ≤ (2 * p + 1 + 1) * 2 ^ k := Nat.mul_le_mul_right _ (by omega)
    rw [nd, emp, nd_rep k (2 * p) (by omega), nd_rep k (2 * p + 1) (by omega)]
theorem shl7 : ∀ d, d < 7 → IntKind.i64.wrap ((1 : Int) * 2 ^ min d IntKind.i64.bits) = ((2 ^ d : Nat) : Int) := by decide
theorem pow7 : ∀ d, d < 7 → 2 ^ d ≤ 64 := by decide
theorem rep32 {h : List UInt8} (hh : H32 h) (n : Nat) : ∀ a ∈ List.replicate n h, H32 a := fun a ha => by rw [(List.mem_replicate.1 ha).2]; exact hh
theorem empH32 {h : List UInt8} (hh : H32 h) (k : Nat) : H32 (emp dNode h k) := emp_all (Q := H32) (fun a b => dNode_len a b) hh k

/- sponsion/sponsionlaw10.TreeFull -/
theorem treeFull_walk (w : World) (x : Nat) (h : List UInt8) (hh : H32 h) (hT : Tabs w) :
    Gives Tryd.prog 8 #[.int .u8 (x : Int), .agg (bytesV h).toArray] w fun u w1 => u = .bool true ∧ Keep nof w w1 := by
  have M0 := Mem.start w nof
  obtain ⟨d, hd⟩ : ∃ d, d = x % 7 := ⟨_, rfl⟩
  have hd7 : d < 7 := by omega
  obtain ⟨K, hK⟩ : ∃ K, K = 2 ^ d := ⟨_, rfl⟩
  have hK64 : K ≤ 64 := by rw [hK]; exact pow7 d hd7
  have hroot : nd dNode e0 (List.replicate K h) d 0 = emp dNode h d := nd_rep d 0 (by rw [hK]; omega)
  have hem := empH32 hh
  have hemd := hem d
  have hrep := rep32 hh
  have hfull : ¬ (List.replicate K h).length < 2 ^ d := by rw [List.length_replicate, hK]; omega
  refine Gives.enter (n := 131) Tryd.func8 rfl Tryd.ntmps8 rfl (env := [(0, .int .u8 (x : Int)), (1, .agg (bytesV h).toArray)]) rfl ?_
  refine WC.seq ?_
  refine WC.region ?_
  refine WL.ac rfl rfl rfl (Ac.box M0 rfl rfl) ?_; rintro v1 w1 ⟨gb, rfl, hg1, K1, M1⟩
  refine WL.ex rfl rfl rfl (Ex.asg rfl) ?_
  refine WL.nil ?_
  refine WX.next (?_)
  refine WC.seq ?_
  refine WC.seq ?_
  refine WC.region ?_
  refine WL.ac rfl rfl rfl (Ac.call rfl Tryd.func11 nm11 rfl (lives10_ok w1 (hT.keep M1.keep))) ?_; rintro v3 w3 ⟨rfl, K3⟩
  have M3 := M1.step K3
  refine WL.ex rfl rfl rfl (Ex.not rfl) ?_
  refine WL.nil ?_
  refine WX.next (?_)
  refine WC.no rfl ?_
  refine WC.skip ?_
  refine WX.next (?_)
  refine WC.seq ?_
  refine WC.region ?_
  refine WL.ex rfl rfl rfl (Ex.mv rfl) ?_
  refine WL.ex rfl rfl rfl (Ex.rem rfl rfl (by decide) (c := ((d : Nat) : Int)) (by rw [hd]; exact tmodT _ 7)) ?_
  refine WL.ex rfl rfl rfl (Ex.cvI Tryd.underlying5 Tryd.underlying3 rfl (i64w _ (by omega) (by omega))) ?_
  refine WL.ex rfl rfl rfl (Ex.asg rfl) ?_
  refine WL.nil ?_
  refine WX.next (?_)
  refine WC.seq ?_
  refine WC.region ?_
  refine WL.ex rfl rfl rfl (Ex.mv rfl) ?_
  refine WL.ac rfl rfl rfl (Ac.call rfl Tryd.func12 nm12 rfl (tNew_ok w3 d (by omega) (hT.keep M3.keep))) ?_; rintro v10 w10 ⟨g, gl, ge, rfl, N10⟩
  have M10 := (M3.new N10).openS
  refine WL.ex rfl rfl rfl (Ex.asg rfl) ?_
  refine WL.nil ?_
  refine WX.next (?_)
  refine WC.seq ?_
  refine WC.seq ?_
  refine WC.region ?_
  refine WL.ex rfl rfl rfl (Ex.mv rfl) ?_
  refine WL.ex rfl rfl rfl (Ex.shl rfl rfl (m := d) rfl (c := ((K : Nat) : Int)) (by rw [hK]; exact shl7 d hd7)) ?_
  refine WL.ex rfl rfl rfl (Ex.mv rfl) ?_
  refine WL.nil ?_
  refine WX.next (?_)
  refine WC.block ?_
  refine WC.loop (σ := Nat × List Value) (fun s => [(3, .pointer (some ⟨gb, 0, none⟩)), (5, .int .i64 (d : Int)), (6, .pointer (some ⟨g, 0, none⟩)), (29, .int .i64 (K : Int)), (30, .int .i64 (s.1 : Int))]) (fun s wr => s.1 ≤ K ∧ Mem w wr nof [blk ge (fl (emps dNode e0 (d + 1))) 28, treeR g gl ge d s.2 (lvOf dNode e0 d (List.replicate s.1 h)), blk gb (bytesV h) 28]) (fun s => K - s.1) (((0, nilS (d + 1)) : Nat × List Value)) ?_ (.cons rfl (.cons rfl (.cons rfl (.cons rfl (.cons rfl (.nil)))))) ?_
  · exact ⟨by simp, M10⟩
  rintro ⟨i, va⟩ w15 ⟨hi, M15⟩
  dsimp only at hi M15
  refine WC.sub (env' := [(3, .pointer (some ⟨gb, 0, none⟩)), (5, .int .i64 (d : Int)), (6, .pointer (some ⟨g, 0, none⟩)), (29, .int .i64 (K : Int)), (30, .int .i64 (i : Int))]) (.cons rfl (.cons rfl (.cons rfl (.cons rfl (.cons rfl (.nil)))))) ?_
  refine WC.seq ?_
  refine WC.region ?_
  refine WL.ex rfl rfl rfl (Ex.lss rfl rfl) ?_
  refine WL.nil ?_
  refine WX.next (?_)
  refine WC.seq ?_
  refine WC.cond_dec rfl (fun hc31 => ?_) (fun hc31 => ?_)
  · have hti : (List.replicate i h).length < 2 ^ d := by rw [List.length_replicate, ← hK]; omega
    refine WC.skip ?_
    refine WX.next (?_)
    refine WC.seq ?_
    refine WC.block ?_
    refine WC.seq ?_
    refine WC.region ?_
    refine WL.ex rfl rfl rfl (Ex.mv rfl) ?_
    refine WL.ex rfl rfl rfl (Ex.asg rfl) ?_
    refine WL.nil ?_
    refine WX.next (?_)
    refine WC.seq ?_
    refine WC.region ?_
    refine WL.ex rfl rfl rfl (Ex.mv rfl) ?_
    refine WL.ex rfl rfl rfl (Ex.loadA ty28 rfl (h32_len (by first | assumption | exact h32_0)) (M15.rdw (i := 2) rfl)) ?_
    refine WL.ac rfl rfl rfl (Ac.call rfl Tryd.func13 nm13 rfl (tAppend_ok w15 g gl ge d va (List.replicate i h) h (M15.get (i := 1) rfl) (hrep i) hh (by omega) (hT.keep M15.keep) (M15.tabF hT 1 rfl))) ?_; rintro v21 w21 ⟨va1, rfl, T21⟩
    rw [tApp_c hti, ← List.replicate_succ'] at T21
    rw [tApp_a hti, tApp_b hti, List.length_replicate]
    have M21 := M15.turned (i := 1) rfl T21
    try dsimp only [List.set] at M21
    refine WL.ex rfl rfl rfl (Ex.mv rfl) ?_
    refine WL.ex rfl rfl rfl (Ex.ext rfl rfl) ?_
    refine WL.ex rfl rfl rfl (Ex.ext rfl rfl) ?_
    refine WL.ex rfl rfl rfl (Ex.asg rfl) ?_
    refine WL.ex rfl rfl rfl (Ex.asg rfl) ?_
    refine WL.nil ?_
    refine WX.next (?_)
    refine WC.seq ?_
    refine WC.region ?_
    refine WL.ex rfl rfl rfl (Ex.mv rfl) ?_
    refine WL.ex rfl rfl rfl (Ex.neI rfl rfl) ?_
    refine WL.ex rfl rfl rfl (Ex.mv rfl) ?_
    
    refine WL.yes rfl rfl rfl rfl ?_
    refine WL.ex rfl rfl rfl (Ex.mv rfl) ?_
    refine WL.yes rfl rfl rfl rfl ?_
    refine WL.ex rfl rfl rfl (Ex.mv rfl) ?_
    refine WL.yes rfl rfl rfl rfl ?_
    refine WL.ex rfl rfl rfl (Ex.cvI Tryd.underlying3 Tryd.underlying23 rfl (u64w_lt _ (by omega))) ?_
    refine WL.yes rfl rfl rfl rfl ?_
    refine WL.ex rfl rfl rfl (Ex.neI rfl rfl) ?_
    rw [show (!decide ((i : Int) = (i : Int))) = false by simp]
    refine WL.ex rfl rfl rfl (Ex.pickF rfl rfl) ?_
    refine WL.nil ?_
    refine WX.next (?_)
    refine WC.no rfl ?_
    refine WC.skip ?_
    refine WX.normal_block (WX.next (?_))
    refine WC.region ?_
    refine WL.ex rfl rfl rfl (Ex.add rfl rfl (i64w _ (by omega) (by omega))) ?_
    refine WL.ex rfl rfl rfl (Ex.mv rfl) ?_
    refine WL.nil ?_
    refine WX.again (((i + 1, va1) : Nat × List Value)) ?_ ?_ (.cons rfl (.cons rfl (.cons rfl (.cons rfl (.cons rfl (.nil))))))
    · dsimp only; omega
    · exact ⟨by dsimp only; omega, M21⟩
  · obtain rfl : K = i := by omega
    refine WC.exit ?_
    refine WX.exit_then (WX.exit_then (WX.exit_block (WX.next (?_))))
    refine WC.seq ?_
    refine WC.region ?_
    refine WL.ex rfl rfl rfl (Ex.mv rfl) ?_
    refine WL.ac rfl rfl rfl (Ac.call rfl Tryd.func14 nm14 rfl (tRoot_ok w15 g gl ge d va (List.replicate K h) (TreeS.of (M15.get (i := 1) rfl) (lvOf_len _ _)) (ES.of (M15.get (i := 0) rfl)) (hrep K) (by omega) (hT.keep M15.keep))) ?_; rintro v38 w38 ⟨rfl, K38⟩
    rw [hroot]
    have M38 := M15.step K38
    refine WL.ac rfl rfl rfl (Ac.alloc M38 (l := bytesV (List.replicate 32 0)) (by kernel_rfl)) ?_; rintro v39 w39 ⟨gR, rfl, hg39, K39, M39⟩
    refine WL.ac0 rfl rfl (Ac.stA M39 ty28 rfl rfl rfl (h32_len (by first | assumption | exact h32_0)) (bytesV_one _) (i := 0) rfl (by first | (rw [h32_len (by first | assumption | exact h32_0), h32_len (by first | assumption | exact h32_0)]; decide) | (rw [h32_len (by first | assumption | exact h32_0)]; decide) | rw [h32_len (by first | assumption | exact h32_0)])) ?_; rintro v40 w40 ⟨K40, M40⟩
    try dsimp only [List.set] at M40
    rw [splice_all _ _ (by first | rw [h32_len (by first | assumption | exact h32_0), h32_len (by first | assumption | exact h32_0)] | rw [h32_len (by first | assumption | exact h32_0)])] at M40
    refine WL.nil ?_
    refine WX.next (?_)
    refine WC.seq ?_
    refine WC.region ?_
    refine WL.ex rfl rfl rfl (Ex.mv rfl) ?_
    refine WL.ex rfl rfl rfl (Ex.loadA ty28 rfl (h32_len (by first | assumption | exact h32_0)) (M40.rdw (i := 3) rfl)) ?_
    refine WL.ac rfl rfl rfl (Ac.call rfl Tryd.func13 nm13 rfl (tAppend_ok w40 g gl ge d va (List.replicate K h) h (M40.get (i := 2) rfl) (hrep K) hh (by omega) (hT.keep M40.keep) (M40.tabF hT 2 rfl))) ?_; rintro v43 w43 ⟨va2, rfl, T43⟩
    rw [tFull_c hfull] at T43
    rw [tFull_a hfull, tFull_b hfull]
    have M43 := M40.turned (i := 2) rfl T43
    try dsimp only [List.set] at M43
    refine WL.ex rfl rfl rfl (Ex.mv rfl) ?_
    refine WL.ex rfl rfl rfl (Ex.ext rfl rfl) ?_
    refine WL.ex rfl rfl rfl (Ex.ext rfl rfl) ?_
    refine WL.ex rfl rfl rfl (Ex.asg rfl) ?_
    refine WL.ex rfl rfl rfl (Ex.asg rfl) ?_
    refine WL.nil ?_
    refine WX.next (?_)
    refine WC.seq ?_
    refine WC.region ?_
    refine WL.ex rfl rfl rfl (Ex.loadA ty28 rfl (h32_len (by first | assumption | exact h32_0)) (M43.rdw (i := 3) rfl)) ?_
    refine WL.ac rfl rfl rfl (Ac.alloc M43 (l := bytesV (List.replicate 32 0)) (by kernel_rfl)) ?_; rintro v50 w50 ⟨gs, rfl, hg50, K50, M50⟩
    refine WL.ac0 rfl rfl (Ac.stA M50 ty28 rfl rfl rfl (h32_len (by first | assumption | exact h32_0)) (bytesV_one _) (i := 0) rfl (by first | (rw [h32_len (by first | assumption | exact h32_0), h32_len (by first | assumption | exact h32_0)]; decide) | (rw [h32_len (by first | assumption | exact h32_0)]; decide) | rw [h32_len (by first | assumption | exact h32_0)])) ?_; rintro v51 w51 ⟨K51, M51⟩
    try dsimp only [List.set] at M51
    rw [splice_all _ _ (by first | rw [h32_len (by first | assumption | exact h32_0), h32_len (by first | assumption | exact h32_0)] | rw [h32_len (by first | assumption | exact h32_0)])] at M51
    refine WL.nil ?_
    refine WX.next (?_)
    refine WC.seq ?_
    refine WC.seq ?_
    refine WC.region ?_
    refine WL.ex rfl rfl rfl (Ex.mv rfl) ?_
    refine WL.ex rfl rfl rfl (Ex.mv rfl) ?_
    refine WL.nil ?_
    refine WX.next (?_)
    refine WC.block ?_
    refine WC.loop (σ := Nat) (fun i => [(3, .pointer (some ⟨gb, 0, none⟩)), (6, .pointer (some ⟨g, 0, none⟩)), (10, .pointer (some ⟨gR, 0, none⟩)), (12, .int .i64 7), (13, .pointer (some ⟨gs, 0, none⟩)), (57, .int .i64 (d : Int)), (58, .int .i64 (i : Int))]) (fun i wr => i ≤ d ∧ Mem w wr nof [blk gs (bytesV (emp dNode h i)) 28, blk gR (bytesV (emp dNode h d)) 28, blk ge (fl (emps dNode e0 (d + 1))) 28, treeR g gl ge d va2 (lvOf dNode e0 d (List.replicate K h)), blk gb (bytesV h) 28]) (fun i => d - i) (0) ?_ (.cons rfl (.cons rfl (.cons rfl (.cons rfl (.cons rfl (.cons rfl (.cons rfl (.nil)))))))) ?_
    · exact ⟨by omega, M51⟩
    rintro i w54 ⟨hi, M54⟩
    refine WC.seq ?_
    refine WC.region ?_
    refine WL.ex rfl rfl rfl (Ex.lss rfl rfl) ?_
    refine WL.nil ?_
    refine WX.next (?_)
    refine WC.seq ?_
    refine WC.cond_dec rfl (fun hc59 => ?_) (fun hc59 => ?_)
    · have hei := hem i
      have hei2 := hem (i + 1)
      refine WC.skip ?_
      refine WX.next (?_)
      refine WC.seq ?_
      refine WC.block ?_
      refine WC.region ?_
      refine WL.ex rfl rfl rfl (Ex.loadA ty28 rfl (h32_len (by first | assumption | exact h32_0)) (M54.rdw (i := 0) rfl)) ?_
      refine WL.ex rfl rfl rfl (Ex.loadA ty28 rfl (h32_len (by first | assumption | exact h32_0)) (M54.rdw (i := 0) rfl)) ?_
      refine WL.ac rfl rfl rfl (Ac.call rfl Tryd.func30 nm30 rfl (node_ok w54 _ _ hei hei (hT.keep M54.keep))) ?_; rintro v58 w58 ⟨rfl, K58⟩
      rw [show dNode (emp dNode h i) (emp dNode h i) = emp dNode h (i + 1) from rfl]
      have M58 := M54.step K58
      refine WL.ac0 rfl rfl (Ac.stA M58 ty28 rfl rfl rfl (h32_len (by first | assumption | exact h32_0)) (bytesV_one _) (i := 0) rfl (by first | (rw [h32_len (by first | assumption | exact h32_0), h32_len (by first | assumption | exact h32_0)]; decide) | (rw [h32_len (by first | assumption | exact h32_0)]; decide) | rw [h32_len (by first | assumption | exact h32_0)])) ?_; rintro v59 w59 ⟨K59, M59⟩
      try dsimp only [List.set] at M59
      rw [splice_all _ _ (by first | rw [h32_len (by first | assumption | exact h32_0), h32_len (by first | assumption | exact h32_0)] | rw [h32_len (by first | assumption | exact h32_0)])] at M59
      refine WL.nil ?_
      refine WX.normal_block (WX.next (?_))
      refine WC.region ?_
      refine WL.ex rfl rfl rfl (Ex.add rfl rfl (i64w _ (by omega) (by omega))) ?_
      refine WL.ex rfl rfl rfl (Ex.mv rfl) ?_
      refine WL.nil ?_
      refine WX.again (i + 1) ?_ ?_ (.cons rfl (.cons rfl (.cons rfl (.cons rfl (.cons rfl (.cons rfl (.cons rfl (.nil))))))))
      · (try dsimp only); omega
      · exact ⟨by omega, M59⟩
    · obtain rfl : d = i := by omega
      refine WC.exit ?_
      refine WX.exit_then (WX.exit_then (WX.exit_block (WX.next (?_))))
      refine WC.seq ?_
      refine WC.region ?_
      refine WL.ex rfl rfl rfl (Ex.asg rfl) ?_
      refine WL.nil ?_
      refine WX.next (?_)
      refine WC.seq ?_
      refine WC.region ?_
      refine WL.ex rfl rfl rfl (Ex.mv rfl) ?_
      refine WL.ex rfl rfl rfl (Ex.loadA ty28 rfl (h32_len (by first | assumption | exact h32_0)) (M54.rdw (i := 4) rfl)) ?_
      refine WL.ac rfl rfl rfl (Ac.call rfl Tryd.func13 nm13 rfl (nApp_ok w54 h hh)) ?_; rintro v65 w65 ⟨rfl, K65⟩
      have M65 := M54.step K65
      refine WL.ex rfl rfl rfl (Ex.mv rfl) ?_
      refine WL.ex rfl rfl rfl (Ex.ext rfl rfl) ?_
      refine WL.ex rfl rfl rfl (Ex.ext rfl rfl) ?_
      refine WL.ex rfl rfl rfl (Ex.asg rfl) ?_
      refine WL.ex rfl rfl rfl (Ex.asg rfl) ?_
      refine WL.nil ?_
      refine WX.next (?_)
      refine WC.seq ?_
      refine WC.region ?_
      refine WL.ex rfl rfl rfl (Ex.mv rfl) ?_
      refine WL.ac rfl rfl rfl (Ac.call rfl Tryd.func29 nm29 rfl (nLeaf_ok w65 0)) ?_; rintro v72 w72 ⟨rfl, K72⟩
      have M72 := M65.step K72
      refine WL.ex rfl rfl rfl (Ex.mv rfl) ?_
      refine WL.ex rfl rfl rfl (Ex.ext rfl rfl) ?_
      refine WL.ex rfl rfl rfl (Ex.ext rfl rfl) ?_
      refine WL.ac rfl rfl rfl (Ac.alloc M72 (l := bytesV (List.replicate 32 0)) (by kernel_rfl)) ?_; rintro v76 w76 ⟨g76, rfl, hg76, K76, M76⟩
      refine WL.ac0 rfl rfl (Ac.stA M76 ty28 rfl rfl rfl (h32_len (by first | assumption | exact h32_0)) (bytesV_one _) (i := 0) rfl (by first | (rw [h32_len (by first | assumption | exact h32_0), h32_len (by first | assumption | exact h32_0)]; decide) | (rw [h32_len (by first | assumption | exact h32_0)]; decide) | rw [h32_len (by first | assumption | exact h32_0)])) ?_; rintro v77 w77 ⟨K77, M77⟩
      try dsimp only [List.set] at M77
      rw [splice_all _ _ (by first | rw [h32_len (by first | assumption | exact h32_0), h32_len (by first | assumption | exact h32_0)] | rw [h32_len (by first | assumption | exact h32_0)])] at M77
      refine WL.ex rfl rfl rfl (Ex.asg rfl) ?_
      refine WL.nil ?_
      refine WX.next (?_)
      refine WC.seq ?_
      refine WC.region ?_
      refine WL.ex rfl rfl rfl (Ex.mv rfl) ?_
      refine WL.ac rfl rfl rfl (Ac.call rfl Tryd.func23 nm23 rfl (nNode_ok w77 0 0 0)) ?_; rintro v80 w80 ⟨rfl, K80⟩
      have M80 := M77.step K80
      refine WL.ex rfl rfl rfl (Ex.mv rfl) ?_
      refine WL.ex rfl rfl rfl (Ex.ext rfl rfl) ?_
      refine WL.ex rfl rfl rfl (Ex.ext rfl rfl) ?_
      refine WL.ac rfl rfl rfl (Ac.alloc M80 (l := bytesV (List.replicate 32 0)) (by kernel_rfl)) ?_; rintro v84 w84 ⟨g84, rfl, hg84, K84, M84⟩
      refine WL.ac0 rfl rfl (Ac.stA M84 ty28 rfl rfl rfl (h32_len (by first | assumption | exact h32_0)) (bytesV_one _) (i := 0) rfl (by first | (rw [h32_len (by first | assumption | exact h32_0), h32_len (by first | assumption | exact h32_0)]; decide) | (rw [h32_len (by first | assumption | exact h32_0)]; decide) | rw [h32_len (by first | assumption | exact h32_0)])) ?_; rintro v85 w85 ⟨K85, M85⟩
      try dsimp only [List.set] at M85
      rw [splice_all _ _ (by first | rw [h32_len (by first | assumption | exact h32_0), h32_len (by first | assumption | exact h32_0)] | rw [h32_len (by first | assumption | exact h32_0)])] at M85
      refine WL.ex rfl rfl rfl (Ex.asg rfl) ?_
      refine WL.nil ?_
      refine WX.next (?_)
      refine WC.seq ?_
      refine WC.draw (Keep nof w85.drew) [] (.one 0 0 (.one 1 0 (.one 2 0 (.one 3 0 (.one 5 1 (.one 4 2 (.one 6 0 (.one 7 0 (.one 8 0 (.one 9 1 (.one 10 1 (.one 11 0 (.one 12 0 (.one 13 0 (.one 14 0 (.one 15 0 (.one 16 0 (.one 17 0 (.one 18 0 (.one 19 0 (.one 20 0 (.one 21 0 (.one 22 0 (.one 23 0 (.one 24 0 (.one 25 0 (.one 26 0 (.one 27 2 (.one 28 0 (.one 29 0 (.one 30 0 (.one 31 0 (.one 32 2 (.one 33 0 (.one 34 0 (.one 35 0 (.one 36 0 (.one 37 2 (.one 38 0 (.one 39 0 (.one 40 0 (.one 41 0 (.one 42 2 (.one 43 0 (.one 44 0 (.one 45 0 (.one 46 0 (.one 48 0 (.one 47 2 (.one 49 0 (.one 50 0 (.one 51 0 .nil)))))))))))))))))))))))))))))))))))))))))))))))))))) mixed (by kernel_rfl) (by kernel_rfl) (by kernel_rfl) (HQ.then_ HQ.body) ?_
      obtain ⟨w87, hw87⟩ : ∃ v, v = w85.drew := ⟨_, rfl⟩
      have D87 : Keep nof w85 w87 := by rw [hw87]; exact Keep.drew _ _
      have M87 := M85.step D87
      rw [← hw87]; clear hw87
      refine WP.p rfl rfl rfl rfl (fun _ => Ex.mv rfl) ?_
      refine WP.p rfl rfl rfl rfl (fun _ => Ex.eqI rfl rfl) ?_
      refine WP.p rfl rfl rfl rfl (fun _ => Ex.mv rfl) ?_
      
      refine WP.py rfl rfl rfl rfl rfl rfl (fun _ => Ex.mv rfl) ?_
      refine WP.qy (Keep.refl _ _) rfl rfl rfl rfl rfl rfl (fun w' hS => Ex.loadA ty28 rfl (h32_len (by first | assumption | exact h32_0)) ((M87.rdw (i := 3) rfl).keep0 hS)) ?_
      refine WP.ays rfl rfl rfl rfl rfl rfl (Ac.call rfl Tryd.func14 nm14 rfl (tRoot_ok w87 g gl ge d va2 (List.replicate K h) (TreeS.of (M87.get (i := 5) rfl) (lvOf_len _ _)) (ES.of (M87.get (i := 4) rfl)) (hrep K) (by omega) (hT.keep M87.keep))) ?_; rintro v93 w93 ⟨rfl, K93⟩
      refine ⟨Keep nof w93, fun u h => K93.trans h, Keep.refl _ _, ?_⟩
      rw [hroot]
      have M93 := M87.step K93
      refine WP.py rfl rfl rfl rfl rfl rfl (fun _ => Ex.eqA rfl rfl (eqHash w hemd hemd)) ?_
      rw [decide_eq_true rfl]
      refine WP.p rfl rfl rfl rfl (fun _ => Ex.pickT rfl rfl) ?_
      refine WP.p rfl rfl rfl rfl (fun _ => Ex.mv rfl) ?_
      refine WP.qy (Keep.refl _ _) rfl rfl rfl rfl rfl rfl (fun w' hS => Ex.loadA ty28 rfl (h32_len (by first | assumption | exact h32_0)) ((M93.rdw (i := 3) rfl).keep0 hS)) ?_
      refine WP.qy (Keep.refl _ _) rfl rfl rfl rfl rfl rfl (fun w' hS => Ex.loadA ty28 rfl (h32_len (by first | assumption | exact h32_0)) ((M93.rdw (i := 2) rfl).keep0 hS)) ?_
      refine WP.py rfl rfl rfl rfl rfl rfl (fun _ => Ex.eqA rfl rfl (eqHash w hemd hemd)) ?_
      rw [decide_eq_true rfl]
      refine WP.p rfl rfl rfl rfl (fun _ => Ex.pickT rfl rfl) ?_
      refine WP.p rfl rfl rfl rfl (fun _ => Ex.mv rfl) ?_
      refine WP.py rfl rfl rfl rfl rfl rfl (fun _ => Ex.mv rfl) ?_
      refine WP.py rfl rfl rfl rfl rfl rfl (fun _ => Ex.eqI rfl rfl) ?_
      refine WP.p rfl rfl rfl rfl (fun _ => Ex.pickT rfl rfl) ?_
      refine WP.p rfl rfl rfl rfl (fun _ => Ex.mv rfl) ?_
      
      refine WP.py rfl rfl rfl rfl rfl rfl (fun _ => Ex.mv rfl) ?_
      refine WP.py rfl rfl rfl rfl rfl rfl (fun _ => Ex.not rfl) ?_
      refine WP.p rfl rfl rfl rfl (fun _ => Ex.pickT rfl rfl) ?_
      refine WP.p rfl rfl rfl rfl (fun _ => Ex.mv rfl) ?_
      
      refine WP.py rfl rfl rfl rfl rfl rfl (fun _ => Ex.mv rfl) ?_
      refine WP.py rfl rfl rfl rfl rfl rfl (fun _ => Ex.not rfl) ?_
      refine WP.p rfl rfl rfl rfl (fun _ => Ex.pickT rfl rfl) ?_
      refine WP.p rfl rfl rfl rfl (fun _ => Ex.mv rfl) ?_
      
      refine WP.py rfl rfl rfl rfl rfl rfl (fun _ => Ex.mv rfl) ?_
      refine WP.ays rfl rfl rfl rfl rfl rfl (Ac.call rfl Tryd.func16 nm16 rfl (nLen_ok w93)) ?_; rintro v115 w115 ⟨rfl, K115⟩
      refine ⟨Keep nof w115, fun u h => K115.trans h, Keep.refl _ _, ?_⟩
      have M115 := M93.step K115
      refine WP.py rfl rfl rfl rfl rfl rfl (fun _ => Ex.eqI rfl rfl) ?_
      refine WP.p rfl rfl rfl rfl (fun _ => Ex.pickT rfl rfl) ?_
      refine WP.p rfl rfl rfl rfl (fun _ => Ex.mv rfl) ?_
      
      refine WP.py rfl rfl rfl rfl rfl rfl (fun _ => Ex.mv rfl) ?_
      refine WP.ays rfl rfl rfl rfl rfl rfl (Ac.call rfl Tryd.func28 nm28 rfl (nDepth_ok w115)) ?_; rintro v120 w120 ⟨rfl, K120⟩
      refine ⟨Keep nof w120, fun u h => K120.trans h, Keep.refl _ _, ?_⟩
      have M120 := M115.step K120
      refine WP.py rfl rfl rfl rfl rfl rfl (fun _ => Ex.eqI rfl rfl) ?_
      refine WP.p rfl rfl rfl rfl (fun _ => Ex.pickT rfl rfl) ?_
      refine WP.p rfl rfl rfl rfl (fun _ => Ex.mv rfl) ?_
      
      refine WP.py rfl rfl rfl rfl rfl rfl (fun _ => Ex.mv rfl) ?_
      refine WP.ays rfl rfl rfl rfl rfl rfl (Ac.call rfl Tryd.func15 nm15 rfl (nCut_ok w120 0)) ?_; rintro v125 w125 ⟨rfl, K125⟩
      refine ⟨Keep nof w125, fun u h => K125.trans h, Keep.refl _ _, ?_⟩
      have M125 := M120.step K125
      refine WP.py rfl rfl rfl rfl rfl rfl (fun _ => Ex.not rfl) ?_
      refine WP.p rfl rfl rfl rfl (fun _ => Ex.pickT rfl rfl) ?_
      refine WP.p rfl rfl rfl rfl (fun _ => Ex.mv rfl) ?_
      
      refine WP.py rfl rfl rfl rfl rfl rfl (fun _ => Ex.mv rfl) ?_
      refine WP.ays rfl rfl rfl rfl rfl rfl (Ac.call rfl Tryd.func31 nm31 rfl (nCopy_ok w125)) ?_; rintro v130 w130 ⟨rfl, K130⟩
      refine ⟨Keep nof w130, fun u h => K130.trans h, Keep.refl _ _, ?_⟩
      have M130 := M125.step K130
      refine WP.py rfl rfl rfl rfl rfl rfl (fun _ => Ex.eqPn Tryd.underlying25 rfl) ?_
      refine WP.p rfl rfl rfl rfl (fun _ => Ex.pickT rfl rfl) ?_
      refine WP.p rfl rfl rfl rfl (fun _ => Ex.mv rfl) ?_
      refine WP.py rfl rfl rfl rfl rfl rfl (fun _ => Ex.mv rfl) ?_
      refine WP.py rfl rfl rfl rfl rfl rfl (fun _ => Ex.bld bd28 (parts := []) (l := bytesV (List.replicate 32 0)) rfl rfl rfl rfl) ?_
      refine WP.ays rfl rfl rfl rfl rfl rfl (Ac.call rfl Tryd.func14 nm14 rfl (nRoot_ok w130)) ?_; rintro v136 w136 ⟨rfl, K136⟩
      refine ⟨Keep nof w136, fun u h => K136.trans h, Keep.refl _ _, ?_⟩
      have M136 := M130.step K136
      refine WP.py rfl rfl rfl rfl rfl rfl (fun _ => Ex.eqA rfl rfl (eqHash w h32_0 h32_0)) ?_
      rw [decide_eq_true rfl]
      refine WP.p rfl rfl rfl rfl (fun _ => Ex.pickT rfl rfl) ?_
      refine WP.p rfl rfl rfl rfl (fun _ => Ex.asg rfl) ?_
      refine WP.nil ?_
      refine WX.next (?_)
      refine WC.ret ?_
      refine WX.ret1 rfl rfl ?_
      exact ⟨rfl, M136.keep⟩
  -- UNUSED HINTS ['split:23.8', 'split:23.13', 'split:23.45']

end Go.Proofs.YtfgikoilgmddhaaDoor
