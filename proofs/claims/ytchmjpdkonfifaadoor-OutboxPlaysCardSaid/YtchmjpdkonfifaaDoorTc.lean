/- Walks, written by gen.py off the translation's own print: each says what the Go function comes to. -/
import Derived.Test.YtchmjpdkonfifaaDoorTa
set_option linter.unusedVariables false
set_option linter.unusedSimpArgs false
namespace Go.Proofs.YtchmjpdkonfifaaDoor
open Go.Sx Go.RowKit
attribute [local irreducible] Ac Ex WL WC WX WP Gives sha

/- (*sponsion/tree.Tree).Node -/
theorem tNode_ok (w : World) (g gl ge d : Nat) (vs : List Value) (ls : Hs) (n : Nat) (z : Int) (p : Nat) (hTr : TreeS w g gl ge d vs (lvOf dNode e0 d ls)) (hE : ES w ge d) (hls : ∀ a ∈ ls, H32 a) (hn : n < 18446744073709551616) (hz : -9223372036854775808 ≤ z ∧ z ≤ 9223372036854775807) (hp : p < 18446744073709551616) (hd : d ≤ 32) (hT : Tabs w) :
    Gives Tryd.prog 40 #[.pointer (some ⟨g, 0, none⟩), .int .u64 (n : Int), .int .i64 z, .int .u64 (p : Int)] w fun u w1 => u = .tuple #[.agg (bytesV (tNode d ls n z p).1).toArray, .bool (tNode d ls n z p).2] ∧ Keep nof w w1 := by
  have M0 := Mem.start w nof
  have hl0 := lvOf_get (N := dNode) (e := e0) (d := d) (ls := ls) (j := 0) (by omega)
  rw [levOf_zero] at hl0
  refine Gives.enter (n := 71) Tryd.func40 rfl Tryd.ntmps40 rfl (env := [(0, .pointer (some ⟨g, 0, none⟩)), (1, .int .u64 (n : Int)), (2, .int .i64 z), (3, .int .u64 (p : Int))]) rfl ?_
  refine WC.seq ?_
  refine WC.region ?_
  refine WL.ac rfl rfl rfl (Ac.alloc M0 (l := bytesV (List.replicate 32 0)) (by kernel_rfl)) ?_; rintro v1 w1 ⟨go, rfl, hg1, K1, M1⟩
  refine WL.ex rfl rfl rfl (Ex.asg rfl) ?_
  refine WL.nil ?_
  refine WX.next (?_)
  refine WC.seq ?_
  refine WC.seq ?_
  refine WC.region ?_
  refine WL.ex rfl rfl rfl (Ex.mv rfl) ?_
  refine WL.ex rfl rfl rfl (Ex.eqPn Tryd.underlying68 rfl) ?_
  refine WL.ex rfl rfl rfl (Ex.mv rfl) ?_
  refine WL.yes rfl rfl rfl rfl ?_
  refine WL.ex rfl rfl rfl (Ex.mv rfl) ?_
  refine WL.yes rfl rfl rfl rfl ?_
  refine WL.ex rfl rfl rfl (Ex.mv rfl) ?_
  refine WL.yes rfl rfl rfl rfl ?_
  refine WL.ac rfl rfl rfl (Ac.call rfl Tryd.func59 nm59 rfl (tLen_ok w1 g gl ge d vs _ ls (hTr.keep M1.keep) hl0)) ?_; rintro v8 w8 ⟨rfl, K8⟩
  have M8 := M1.step K8
  refine WL.yes rfl rfl rfl rfl ?_
  refine WL.ex rfl rfl rfl (Ex.gtr rfl rfl) ?_
  refine WL.ex rfl rfl rfl (Ex.pickF rfl rfl) ?_
  refine WL.ex rfl rfl rfl (Ex.mv rfl) ?_
  by_cases h1 : (ls.length : Int) < n
  · rw [decide_eq_true h1]
    refine WL.no rfl rfl rfl rfl rfl rfl ?_
    refine WL.no rfl rfl rfl rfl rfl rfl ?_
    refine WL.ex rfl rfl rfl (Ex.pickT rfl rfl) ?_
    refine WL.ex rfl rfl rfl (Ex.mv rfl) ?_
    refine WL.no rfl rfl rfl rfl rfl rfl ?_
    refine WL.no rfl rfl rfl rfl rfl rfl ?_
    refine WL.no rfl rfl rfl rfl rfl rfl ?_
    refine WL.no rfl rfl rfl rfl rfl rfl ?_
    refine WL.ex rfl rfl rfl (Ex.pickT rfl rfl) ?_
    refine WL.ex rfl rfl rfl (Ex.mv rfl) ?_
    refine WL.no rfl rfl rfl rfl rfl rfl ?_
    refine WL.no rfl rfl rfl rfl rfl rfl ?_
    refine WL.no rfl rfl rfl rfl rfl rfl ?_
    refine WL.no rfl rfl rfl rfl rfl rfl ?_
    refine WL.no rfl rfl rfl rfl rfl rfl ?_
    refine WL.no rfl rfl rfl rfl rfl rfl ?_
    refine WL.no rfl rfl rfl rfl rfl rfl ?_
    refine WL.ex rfl rfl rfl (Ex.pickT rfl rfl) ?_
    refine WL.nil ?_
    refine WX.next (?_)
    refine WC.yes rfl ?_
    refine WC.seq ?_
    refine WC.region ?_
    refine WL.ex rfl rfl rfl (Ex.bld bd31 (parts := []) (l := bytesV (List.replicate 32 0)) rfl rfl rfl rfl) ?_
    refine WL.ac0 rfl rfl (Ac.stA M8 ty31 rfl rfl rfl (h32_len (by first | assumption | exact h32_0)) (bytesV_one _) (i := 0) rfl (by first | (rw [h32_len (by first | assumption | exact h32_0), h32_len (by first | assumption | exact h32_0)]; decide) | (rw [h32_len (by first | assumption | exact h32_0)]; decide) | rw [h32_len (by first | assumption | exact h32_0)])) ?_; rintro v18 w18 ⟨K18, M18⟩
    try dsimp only [List.set] at M18
    rw [splice_all _ _ (by first | rw [h32_len (by first | assumption | exact h32_0), h32_len (by first | assumption | exact h32_0)] | rw [h32_len (by first | assumption | exact h32_0)])] at M18
    refine WL.ex rfl rfl rfl (Ex.asg rfl) ?_
    refine WL.nil ?_
    refine WX.next (?_)
    refine WC.ret ?_
    refine WX.ret_then (?_)
    refine WX.retn rfl (.cell rfl (run_loadVarA ty31 (h32_len (by first | assumption | exact h32_0)) (M18.rdw (i := 0) rfl)) (.tmp rfl .nil)) rfl ?_
    rw [tNode_no (fun h => by omega)]
    exact ⟨rfl, M18.keep⟩
  · rw [decide_eq_false h1]
    refine WL.yes rfl rfl rfl rfl ?_
    refine WL.ex rfl rfl rfl (Ex.mv rfl) ?_
    refine WL.yes rfl rfl rfl rfl ?_
    refine WL.ex rfl rfl rfl (Ex.lss rfl rfl) ?_
    refine WL.ex rfl rfl rfl (Ex.pickF rfl rfl) ?_
    refine WL.ex rfl rfl rfl (Ex.mv rfl) ?_
    by_cases h2 : z < 0
    · rw [decide_eq_true h2]
      refine WL.no rfl rfl rfl rfl rfl rfl ?_
      refine WL.no rfl rfl rfl rfl rfl rfl ?_
      refine WL.no rfl rfl rfl rfl rfl rfl ?_
      refine WL.no rfl rfl rfl rfl rfl rfl ?_
      refine WL.ex rfl rfl rfl (Ex.pickT rfl rfl) ?_
      refine WL.ex rfl rfl rfl (Ex.mv rfl) ?_
      refine WL.no rfl rfl rfl rfl rfl rfl ?_
      refine WL.no rfl rfl rfl rfl rfl rfl ?_
      refine WL.no rfl rfl rfl rfl rfl rfl ?_
      refine WL.no rfl rfl rfl rfl rfl rfl ?_
      refine WL.no rfl rfl rfl rfl rfl rfl ?_
      refine WL.no rfl rfl rfl rfl rfl rfl ?_
      refine WL.no rfl rfl rfl rfl rfl rfl ?_
      refine WL.ex rfl rfl rfl (Ex.pickT rfl rfl) ?_
      refine WL.nil ?_
      refine WX.next (?_)
      refine WC.yes rfl ?_
      refine WC.seq ?_
      refine WC.region ?_
      refine WL.ex rfl rfl rfl (Ex.bld bd31 (parts := []) (l := bytesV (List.replicate 32 0)) rfl rfl rfl rfl) ?_
      refine WL.ac0 rfl rfl (Ac.stA M8 ty31 rfl rfl rfl (h32_len (by first | assumption | exact h32_0)) (bytesV_one _) (i := 0) rfl (by first | (rw [h32_len (by first | assumption | exact h32_0), h32_len (by first | assumption | exact h32_0)]; decide) | (rw [h32_len (by first | assumption | exact h32_0)]; decide) | rw [h32_len (by first | assumption | exact h32_0)])) ?_; rintro v28 w28 ⟨K28, M28⟩
      try dsimp only [List.set] at M28
      rw [splice_all _ _ (by first | rw [h32_len (by first | assumption | exact h32_0), h32_len (by first | assumption | exact h32_0)] | rw [h32_len (by first | assumption | exact h32_0)])] at M28
      refine WL.ex rfl rfl rfl (Ex.asg rfl) ?_
      refine WL.nil ?_
      refine WX.next (?_)
      refine WC.ret ?_
      refine WX.ret_then (?_)
      refine WX.retn rfl (.cell rfl (run_loadVarA ty31 (h32_len (by first | assumption | exact h32_0)) (M28.rdw (i := 0) rfl)) (.tmp rfl .nil)) rfl ?_
      rw [tNode_no (fun h => by omega)]
      exact ⟨rfl, M28.keep⟩
    · rw [decide_eq_false h2]
      refine WL.yes rfl rfl rfl rfl ?_
      refine WL.ex rfl rfl rfl (Ex.mv rfl) ?_
      refine WL.yes rfl rfl rfl rfl ?_
      refine WL.ex rfl rfl rfl (Ex.mv rfl) ?_
      refine WL.yes rfl rfl rfl rfl ?_
      refine WL.ac rfl rfl rfl (Ac.call rfl Tryd.func64 nm64 rfl (tDepth_ok w8 g gl ge d vs _ (hTr.keep M8.keep) hd)) ?_; rintro v32 w32 ⟨rfl, K32⟩
      have M32 := M8.step K32
      refine WL.yes rfl rfl rfl rfl ?_
      refine WL.ex rfl rfl rfl (Ex.gtr rfl rfl) ?_
      refine WL.ex rfl rfl rfl (Ex.pickF rfl rfl) ?_
      refine WL.ex rfl rfl rfl (Ex.mv rfl) ?_
      by_cases h3 : (d : Int) < z
      · rw [decide_eq_true h3]
        refine WL.no rfl rfl rfl rfl rfl rfl ?_
        refine WL.no rfl rfl rfl rfl rfl rfl ?_
        refine WL.no rfl rfl rfl rfl rfl rfl ?_
        refine WL.no rfl rfl rfl rfl rfl rfl ?_
        refine WL.no rfl rfl rfl rfl rfl rfl ?_
        refine WL.no rfl rfl rfl rfl rfl rfl ?_
        refine WL.no rfl rfl rfl rfl rfl rfl ?_
        refine WL.ex rfl rfl rfl (Ex.pickT rfl rfl) ?_
        refine WL.nil ?_
        refine WX.next (?_)
        refine WC.yes rfl ?_
        refine WC.seq ?_
        refine WC.region ?_
        refine WL.ex rfl rfl rfl (Ex.bld bd31 (parts := []) (l := bytesV (List.replicate 32 0)) rfl rfl rfl rfl) ?_
        refine WL.ac0 rfl rfl (Ac.stA M32 ty31 rfl rfl rfl (h32_len (by first | assumption | exact h32_0)) (bytesV_one _) (i := 0) rfl (by first | (rw [h32_len (by first | assumption | exact h32_0), h32_len (by first | assumption | exact h32_0)]; decide) | (rw [h32_len (by first | assumption | exact h32_0)]; decide) | rw [h32_len (by first | assumption | exact h32_0)])) ?_; rintro v38 w38 ⟨K38, M38⟩
        try dsimp only [List.set] at M38
        rw [splice_all _ _ (by first | rw [h32_len (by first | assumption | exact h32_0), h32_len (by first | assumption | exact h32_0)] | rw [h32_len (by first | assumption | exact h32_0)])] at M38
        refine WL.ex rfl rfl rfl (Ex.asg rfl) ?_
        refine WL.nil ?_
        refine WX.next (?_)
        refine WC.ret ?_
        refine WX.ret_then (?_)
        refine WX.retn rfl (.cell rfl (run_loadVarA ty31 (h32_len (by first | assumption | exact h32_0)) (M38.rdw (i := 0) rfl)) (.tmp rfl .nil)) rfl ?_
        rw [tNode_no (fun h => by omega)]
        exact ⟨rfl, M38.keep⟩
      · rw [decide_eq_false h3]
        obtain ⟨k, rfl⟩ := Int.eq_ofNat_of_zero_le (show 0 ≤ z by omega)
        refine WL.yes rfl rfl rfl rfl ?_
        refine WL.ex rfl rfl rfl (Ex.mv rfl) ?_
        refine WL.yes rfl rfl rfl rfl ?_
        refine WL.ex rfl rfl rfl (Ex.mv rfl) ?_
        refine WL.yes rfl rfl rfl rfl ?_
        refine WL.ac rfl rfl rfl (Ac.call rfl Tryd.func64 nm64 rfl (tDepth_ok w32 g gl ge d vs _ (hTr.keep M32.keep) hd)) ?_; rintro v42 w42 ⟨rfl, K42⟩
        have M42 := M32.step K42
        refine WL.yes rfl rfl rfl rfl ?_
        refine WL.ex rfl rfl rfl (Ex.mv rfl) ?_
        refine WL.yes rfl rfl rfl rfl ?_
        refine WL.ex rfl rfl rfl (Ex.sub rfl rfl (c := ((d - k : Nat) : Int)) (by rw [i64w _ (by omega) (by omega)]; omega)) ?_
        refine WL.yes rfl rfl rfl rfl ?_
        refine WL.ex rfl rfl rfl (Ex.shr rfl rfl (m := d - k) rfl (c := ((p / 2 ^ (d - k) : Nat) : Int)) (shrN _ _ _ (by simp [IntKind.bits]; omega))) ?_
        refine WL.yes rfl rfl rfl rfl ?_
        refine WL.ex rfl rfl rfl (Ex.neI rfl rfl) ?_
        refine WL.ex rfl rfl rfl (Ex.pickF rfl rfl) ?_
        refine WL.nil ?_
        refine WX.next (?_)
        refine WC.cond rfl (fun h4 => ?_) (fun h4 => ?_)
        · have h5 : ¬ p / 2 ^ (d - k) = 0 := fun h6 => by rw [h6] at h4; simp at h4
          refine WC.seq ?_
          refine WC.region ?_
          refine WL.ex rfl rfl rfl (Ex.bld bd31 (parts := []) (l := bytesV (List.replicate 32 0)) rfl rfl rfl rfl) ?_
          refine WL.ac0 rfl rfl (Ac.stA M42 ty31 rfl rfl rfl (h32_len (by first | assumption | exact h32_0)) (bytesV_one _) (i := 0) rfl (by first | (rw [h32_len (by first | assumption | exact h32_0), h32_len (by first | assumption | exact h32_0)]; decide) | (rw [h32_len (by first | assumption | exact h32_0)]; decide) | rw [h32_len (by first | assumption | exact h32_0)])) ?_; rintro v49 w49 ⟨K49, M49⟩
          try dsimp only [List.set] at M49
          rw [splice_all _ _ (by first | rw [h32_len (by first | assumption | exact h32_0), h32_len (by first | assumption | exact h32_0)] | rw [h32_len (by first | assumption | exact h32_0)])] at M49
          refine WL.ex rfl rfl rfl (Ex.asg rfl) ?_
          refine WL.nil ?_
          refine WX.next (?_)
          refine WC.ret ?_
          refine WX.ret_then (?_)
          refine WX.retn rfl (.cell rfl (run_loadVarA ty31 (h32_len (by first | assumption | exact h32_0)) (M49.rdw (i := 0) rfl)) (.tmp rfl .nil)) rfl ?_
          rw [tNode_no (fun h => h5 (by simpa using h.2.2.2))]
          exact ⟨rfl, M49.keep⟩
        · have h5 : p / 2 ^ (d - k) = 0 := by
            have h6 : ((p / 2 ^ (d - k) : Nat) : Int) = 0 := (by simpa using h4)
            exact_mod_cast h6
          have hnl : n ≤ ls.length := by omega
          have hyes := tNode_yes (a := nd dNode e0 (ls.take n) k p) hnl (show k ≤ d by omega) h5 rfl
          have hmul := Nat.lt_mul_div_succ n (show 0 < 2 ^ k from Nat.pow_pos (by decide))
          have hdl := Nat.div_le_div_right (c := 2 ^ k) hnl
          have hntk := nd_take (N := dNode) (e := e0) (ls := ls) (n := n) (k := k) (p := p)
          have hltd := lt_div (p := p) (n := n) (k := k)
          have hr32 := nd32 (take32 hls n) k p
          have hn32 := nd32 hls k p
          have hem := nd_emp (N := dNode) (e := e0) (ls := ls.take n) k p
          have he32 := emp32 k
          have hpl := Nat.mul_le_mul_right (2 ^ k) (n := n / 2 ^ k + 1) (m := p)
          obtain ⟨q, hq⟩ : ∃ q, q = n / 2 ^ k := ⟨_, rfl⟩
          have hll : (levOf dNode e0 ls k).length = ls.length / 2 ^ k := levOf_len _ _
          obtain ⟨q2, hq2⟩ : ∃ q, q = ls.length / 2 ^ k := ⟨_, rfl⟩
          rw [← hq2] at hdl hll
          rw [← hq] at hmul hdl hltd hpl
          refine WC.skip ?_
          refine WX.next (?_)
          refine WC.seq ?_
          refine WC.seq ?_
          refine WC.region ?_
          refine WL.ex rfl rfl rfl (Ex.mv rfl) ?_
          refine WL.ex rfl rfl rfl (Ex.mv rfl) ?_
          refine WL.ex rfl rfl rfl (Ex.shr rfl rfl (m := k) rfl (c := ((q : Nat) : Int)) (by rw [hq]; exact shrN _ _ _ (by simp [IntKind.bits]; omega))) ?_
          refine WL.ex rfl rfl rfl (Ex.asg rfl) ?_
          refine WL.nil ?_
          refine WX.next (?_)
          refine WC.block ?_
          refine WC.seq ?_
          refine WC.region ?_
          refine WL.ex rfl rfl rfl (Ex.mv rfl) ?_
          refine WL.ex rfl rfl rfl (Ex.mv rfl) ?_
          refine WL.ex rfl rfl rfl (Ex.lss rfl rfl) ?_
          refine WL.ex rfl rfl rfl (Ex.asg rfl) ?_
          refine WL.nil ?_
          refine WX.next (?_)
          refine WC.cond_dec rfl (fun h42 => ?_) (fun h42 => ?_)
          · have hpq : p < q := by omega
            obtain ⟨bk, ok_, ck, hvk, hrk, _⟩ := hTr.at' (lvOf_get (j := k) (by omega)) (lev32 hls k) (by omega)
            rw [hntk (hltd hpq)] at hyes
            refine WC.seq ?_
            refine WC.region ?_
            refine WL.ex rfl rfl rfl (Ex.mv rfl) ?_
            refine WL.ex rfl rfl rfl (Ex.nilc rfl) ?_
            refine WL.ex rfl rfl rfl (Ex.fa fl130_0 rfl) ?_
            refine WL.ex rfl rfl rfl (Ex.load ty128 rfl (hTr.keep M42.keep).c0) ?_
            refine WL.ex rfl rfl rfl (Ex.mv rfl) ?_
            refine WL.ex rfl rfl rfl (Ex.ia Tryd.underlying128 sz39 rfl rfl ⟨by omega, by omega⟩) ?_
            refine WL.ex rfl rfl rfl (Ex.load ty39 rfl ((hTr.keep M42.keep).ck hvk (by simp))) ?_
            refine WL.ex rfl rfl rfl (Ex.mv rfl) ?_
            refine WL.ex rfl rfl rfl (Ex.ia Tryd.underlying39 sz31 rfl rfl ⟨by omega, by omega⟩) ?_
            refine WL.ex rfl rfl rfl (Ex.loadA ty31 rfl (l := bytesV (nd dNode e0 ls k p)) (by simpa using hn32) (fl_at (hrk.keep0 M42.keep) (lev32 hls k) (levOf_get (p := p) (by rw [← hq2]; omega)) (by simp))) ?_
            refine WL.ac0 rfl rfl (Ac.stA M42 ty31 rfl rfl rfl (h32_len (by first | assumption | exact h32_0)) (bytesV_one _) (i := 0) rfl (by first | (rw [h32_len (by first | assumption | exact h32_0), h32_len (by first | assumption | exact h32_0)]; decide) | (rw [h32_len (by first | assumption | exact h32_0)]; decide) | rw [h32_len (by first | assumption | exact h32_0)])) ?_; rintro v69 w69 ⟨K69, M69⟩
            try dsimp only [List.set] at M69
            rw [splice_all _ _ (by first | rw [h32_len (by first | assumption | exact h32_0), h32_len (by first | assumption | exact h32_0)] | rw [h32_len (by first | assumption | exact h32_0)])] at M69
            refine WL.ex rfl rfl rfl (Ex.asg rfl) ?_
            refine WL.nil ?_
            refine WX.next (?_)
            refine WC.ret ?_
            refine WX.ret_block (WX.ret_then (?_))
            refine WX.retn rfl (.cell rfl (run_loadVarA ty31 (h32_len (by first | assumption | exact h32_0)) (M69.rdw (i := 0) rfl)) (.tmp rfl .nil)) rfl ?_
            rw [hyes]
            exact ⟨rfl, M69.keep⟩
          · skip
            refine WC.seq ?_
            refine WC.region ?_
            refine WL.ex rfl rfl rfl (Ex.mv rfl) ?_
            refine WL.ex rfl rfl rfl (Ex.mv rfl) ?_
            refine WL.ex rfl rfl rfl (Ex.eqI rfl rfl) ?_
            refine WL.ex rfl rfl rfl (Ex.asg rfl) ?_
            refine WL.nil ?_
            refine WX.next (?_)
            refine WC.cond_dec rfl (fun h56 => ?_) (fun h56 => ?_)
            · obtain rfl : p = q := by omega
              refine WC.seq ?_
              refine WC.region ?_
              refine WL.ex rfl rfl rfl (Ex.mv rfl) ?_
              refine WL.ex rfl rfl rfl (Ex.mv rfl) ?_
              refine WL.ex rfl rfl rfl (Ex.mv rfl) ?_
              refine WL.ac rfl rfl rfl (Ac.call rfl Tryd.func77 nm77 rfl (tEdge_ok w42 g gl ge d vs ls n k (hTr.keep M42.keep) (hE.keep M42.keep) hls hnl (by omega) hd (hT.keep M42.keep))) ?_; rintro v78 w78 ⟨rfl, K78⟩
              rw [← hq]
              have M78 := M42.step K78
              refine WL.ac0 rfl rfl (Ac.stA M78 ty31 rfl rfl rfl (h32_len (by first | assumption | exact h32_0)) (bytesV_one _) (i := 0) rfl (by first | (rw [h32_len (by first | assumption | exact h32_0), h32_len (by first | assumption | exact h32_0)]; decide) | (rw [h32_len (by first | assumption | exact h32_0)]; decide) | rw [h32_len (by first | assumption | exact h32_0)])) ?_; rintro v79 w79 ⟨K79, M79⟩
              try dsimp only [List.set] at M79
              rw [splice_all _ _ (by first | rw [h32_len (by first | assumption | exact h32_0), h32_len (by first | assumption | exact h32_0)] | rw [h32_len (by first | assumption | exact h32_0)])] at M79
              refine WL.ex rfl rfl rfl (Ex.asg rfl) ?_
              refine WL.nil ?_
              refine WX.next (?_)
              refine WC.ret ?_
              refine WX.ret_block (WX.ret_then (?_))
              refine WX.retn rfl (.cell rfl (run_loadVarA ty31 (h32_len (by first | assumption | exact h32_0)) (M79.rdw (i := 0) rfl)) (.tmp rfl .nil)) rfl ?_
              rw [hyes]
              exact ⟨rfl, M79.keep⟩
            · have hem2 := hem (by rw [Nat.mul_comm] at hmul; have := hpl (by omega); simp; omega)
              rw [hem2] at hyes
              refine WC.skip ?_
              refine WX.normal_block (WX.next (?_))
              refine WC.seq ?_
              refine WC.region ?_
              refine WL.ex rfl rfl rfl (Ex.mv rfl) ?_
              refine WL.ex rfl rfl rfl (Ex.nilc rfl) ?_
              refine WL.ex rfl rfl rfl (Ex.fa fl130_1 rfl) ?_
              refine WL.ex rfl rfl rfl (Ex.load ty39 rfl (hTr.keep M42.keep).c1) ?_
              refine WL.ex rfl rfl rfl (Ex.mv rfl) ?_
              refine WL.ex rfl rfl rfl (Ex.ia Tryd.underlying39 sz31 rfl rfl ⟨by omega, by omega⟩) ?_
              refine WL.ex rfl rfl rfl (Ex.loadA ty31 rfl (l := bytesV (emp dNode e0 k)) (by simpa using he32) (fl_at (hE.keep M42.keep) (emps32 _) (emps_get (k := k) (by omega)) (by simp))) ?_
              refine WL.ac0 rfl rfl (Ac.stA M42 ty31 rfl rfl rfl (h32_len (by first | assumption | exact h32_0)) (bytesV_one _) (i := 0) rfl (by first | (rw [h32_len (by first | assumption | exact h32_0), h32_len (by first | assumption | exact h32_0)]; decide) | (rw [h32_len (by first | assumption | exact h32_0)]; decide) | rw [h32_len (by first | assumption | exact h32_0)])) ?_; rintro v88 w88 ⟨K88, M88⟩
              try dsimp only [List.set] at M88
              rw [splice_all _ _ (by first | rw [h32_len (by first | assumption | exact h32_0), h32_len (by first | assumption | exact h32_0)] | rw [h32_len (by first | assumption | exact h32_0)])] at M88
              refine WL.ex rfl rfl rfl (Ex.asg rfl) ?_
              refine WL.nil ?_
              refine WX.next (?_)
              refine WC.ret ?_
              refine WX.retn rfl (.cell rfl (run_loadVarA ty31 (h32_len (by first | assumption | exact h32_0)) (M88.rdw (i := 0) rfl)) (.tmp rfl .nil)) rfl ?_
              rw [hyes]
              exact ⟨rfl, M88.keep⟩

end Go.Proofs.YtchmjpdkonfifaaDoor
