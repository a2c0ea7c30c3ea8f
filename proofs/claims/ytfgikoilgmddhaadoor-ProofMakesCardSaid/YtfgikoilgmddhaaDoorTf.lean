/- Walks, written by gen.py off the translation's own print: each says what the Go function comes to. -/
import Derived.Test.YtfgikoilgmddhaaDoorTe
set_option linter.unusedVariables false
set_option linter.unusedSimpArgs false
namespace Go.Proofs.YtfgikoilgmddhaaDoor
open Go.Sx Go.RowKit
attribute [local irreducible] Ac Ex WL WC WX WP Gives sha

/- (*sponsion/tree.Tree).Cut -/
theorem tCut_ok (w : World) (g gl ge d : Nat) (vs : List Value) (ls : Hs) (n : Nat) (hR : (treeR g gl ge d vs (lvOf dNode e0 d ls)).sat w) (hls : ∀ a ∈ ls, H32 a) (hn : n < 18446744073709551616) (hd : d ≤ 32) :
    Gives Tryd.prog 15 #[.pointer (some ⟨g, 0, none⟩), .int .u64 (n : Int)] w fun u w1 => ∃ vs', u = .bool (decide (n ≤ ls.length)) ∧ Turn w w1 (treeR g gl ge d vs (lvOf dNode e0 d ls)) (treeR g gl ge d vs' (lvOf dNode e0 d (ls.take n))) := by
  have hvl : vs.length = d + 1 := by rw [hR.2.1.len, lvOf_len]
  have hl0 := lvOf_get (N := dNode) (e := e0) (d := d) (ls := ls) (j := 0) (by omega)
  rw [levOf_zero] at hl0
  have M0 := (Mem.begin hR).openS.openS
  refine Gives.enter (n := 40) Tryd.func15 rfl Tryd.ntmps15 rfl (env := [(0, .pointer (some ⟨g, 0, none⟩)), (1, .int .u64 (n : Int))]) rfl ?_
  refine WC.seq ?_
  refine WC.region ?_
  refine WL.ex rfl rfl rfl (Ex.asg rfl) ?_
  refine WL.nil ?_
  refine WX.next (?_)
  refine WC.seq ?_
  refine WC.seq ?_
  refine WC.region ?_
  refine WL.ex rfl rfl rfl (Ex.mv rfl) ?_
  refine WL.ex rfl rfl rfl (Ex.eqPn Tryd.underlying25 rfl) ?_
  refine WL.ex rfl rfl rfl (Ex.mv rfl) ?_
  refine WL.yes rfl rfl rfl rfl ?_
  refine WL.ex rfl rfl rfl (Ex.mv rfl) ?_
  refine WL.yes rfl rfl rfl rfl ?_
  refine WL.ex rfl rfl rfl (Ex.mv rfl) ?_
  refine WL.yes rfl rfl rfl rfl ?_
  refine WL.ac rfl rfl rfl (Ac.call rfl Tryd.func16 nm16 rfl (tLen_ok w g gl ge d vs _ ls (⟨M0.get (i := 0) rfl, M0.get (i := 1) rfl, M0.get (i := 2) rfl, by first | exact lvOf_len _ _ | exact lvM_len _ _ _ _⟩ : TreeS w g gl ge d _ (lvOf dNode e0 d ls)) hl0)) ?_; rintro v7 w7 ⟨rfl, K7⟩
  have M7 := M0.step K7
  refine WL.yes rfl rfl rfl rfl ?_
  refine WL.ex rfl rfl rfl (Ex.gtr rfl rfl) ?_
  refine WL.ex rfl rfl rfl (Ex.pickF rfl rfl) ?_
  refine WL.nil ?_
  refine WX.next (?_)
  refine WC.cond_dec rfl (fun h13 => ?_) (fun h13 => ?_)
  · have e1 : decide (n ≤ ls.length) = false := decide_eq_false (by omega)
    have e2 : ls.take n = ls := List.take_of_length_le (by omega)
    refine WC.seq ?_
    refine WC.region ?_
    refine WL.ex rfl rfl rfl (Ex.asg rfl) ?_
    refine WL.nil ?_
    refine WX.next (?_)
    refine WC.ret ?_
    refine WX.ret_then (?_)
    refine WX.ret1 rfl rfl ?_
    rw [e1, e2]
    exact ⟨_, rfl, (Mem.closeS (Mem.closeS M7)).toTurn⟩
  · have hnl : n ≤ ls.length := by omega
    have e1 : decide (n ≤ ls.length) = true := decide_eq_true hnl
    refine WC.skip ?_
    refine WX.next (?_)
    refine WC.seq ?_
    refine WC.seq ?_
    refine WC.region ?_
    refine WL.ex rfl rfl rfl (Ex.mv rfl) ?_
    refine WL.ex rfl rfl rfl (Ex.nilc rfl) ?_
    refine WL.ex rfl rfl rfl (Ex.fa fl71_0 rfl) ?_
    refine WL.ex rfl rfl rfl (Ex.load ty69 rfl (M7.cell (i := 0) (v := (.slice (some ⟨gl, 0, none⟩) (d + 1) (d + 1))) rfl rfl)) ?_
    refine WL.ex rfl rfl rfl (Ex.len Tryd.underlying69 rfl) ?_
    refine WL.ex rfl rfl rfl (Ex.mv rfl) ?_
    refine WL.nil ?_
    refine WX.next (?_)
    refine WC.block ?_
    refine WC.loop (σ := Nat × List Value) (fun s => [(0, .pointer (some ⟨g, 0, none⟩)), (1, .int .u64 (n : Int)), (18, .int .i64 ((d + 1 : Nat) : Int)), (19, .int .i64 (s.1 : Int))]) (fun s wr => s.1 ≤ d + 1 ∧ s.2.length = d + 1 ∧ Mem w wr (· ∈ (treeR g gl ge d vs (lvOf dNode e0 d ls)).fp) [blk g (tC gl ge d) 71, blk gl s.2 22, levR s.2 (lvM dNode e0 d ls (ls.take n) s.1) 28]) (fun s => d + 1 - s.1) (((0, vs) : Nat × List Value)) ?_ (.cons rfl (.cons rfl (.cons rfl (.cons rfl (.nil))))) ?_
    · refine ⟨by simp, hvl, ?_⟩
      dsimp only
      rw [lvM_zero]
      exact M7
    rintro ⟨k, vs1⟩ w17 ⟨hk, hv1, M17⟩
    dsimp only at hk hv1 M17
    refine WC.sub (env' := [(0, .pointer (some ⟨g, 0, none⟩)), (1, .int .u64 (n : Int)), (18, .int .i64 ((d + 1 : Nat) : Int)), (19, .int .i64 (k : Int))]) (.cons rfl (.cons rfl (.cons rfl (.cons rfl (.nil))))) ?_
    refine WC.seq ?_
    refine WC.region ?_
    refine WL.ex rfl rfl rfl (Ex.lss rfl rfl) ?_
    refine WL.nil ?_
    refine WX.next (?_)
    refine WC.seq ?_
    refine WC.cond_dec rfl (fun h20 => ?_) (fun h20 => ?_)
    · have hlk := lvM_get (N := dNode) (e := e0) (d := d) (ls := ls) (ls' := ls.take n) (k := k) k (by omega)
      rw [if_neg (Nat.lt_irrefl k)] at hlk
      obtain ⟨Ak, ck, hvk, _, hlc, _⟩ := LevS.at (M17.get (i := 2) rfl) hlk
      have hlen := levOf_len (N := dNode) (e := e0) ls k
      have hdl := Nat.div_le_div_right (c := 2 ^ k) hnl
      have htk := levOf_take (N := dNode) (e := e0) hnl k
      have hset := lvM_set (N := dNode) (e := e0) (d := d) (ls := ls) (ls' := ls.take n) (k := k) (by omega)
      refine WC.skip ?_
      refine WX.next (?_)
      refine WC.seq ?_
      refine WC.block ?_
      refine WC.seq ?_
      refine WC.region ?_
      refine WL.ex rfl rfl rfl (Ex.mv rfl) ?_
      refine WL.ex rfl rfl rfl (Ex.asg rfl) ?_
      refine WL.nil ?_
      refine WX.next (?_)
      refine WC.draw (Keep nof w17.drew) [17] (.one 0 0 (.one 1 0 (.one 2 0 (.one 4 0 (.one 5 0 (.one 6 0 (.one 7 0 (.one 9 0 (.one 12 0 (.one 13 0 (.one 14 0 (.one 3 1 (.one 8 1 (.one 10 0 (.one 11 1 (.one 15 0 (.one 16 0 (.one 17 2 .nil)))))))))))))))))) mixed (by kernel_rfl) (by kernel_rfl) (by kernel_rfl) (HQ.block (HQ.then_ (HQ.then_ (HQ.block (HQ.then_ HQ.body))))) ?_
      obtain ⟨w21, hw21⟩ : ∃ v, v = w17.drew := ⟨_, rfl⟩
      have D21 : Keep nof w17 w21 := by rw [hw21]; exact Keep.drew _ _
      have M21 := M17.step D21
      rw [← hw21]; clear hw21
      refine WP.p rfl rfl rfl rfl (fun _ => Ex.mv rfl) ?_
      refine WP.p rfl rfl rfl rfl (fun _ => Ex.nilc rfl) ?_
      refine WP.p rfl rfl rfl rfl (fun _ => Ex.fa fl71_0 rfl) ?_
      refine WP.p rfl rfl rfl rfl (fun _ => Ex.mv rfl) ?_
      refine WP.p rfl rfl rfl rfl (fun _ => Ex.mv rfl) ?_
      refine WP.p rfl rfl rfl rfl (fun _ => Ex.nilc rfl) ?_
      refine WP.p rfl rfl rfl rfl (fun _ => Ex.fa fl71_0 rfl) ?_
      refine WP.p rfl rfl rfl rfl (fun _ => Ex.mv rfl) ?_
      refine WP.p rfl rfl rfl rfl (fun _ => Ex.mv rfl) ?_
      refine WP.p rfl rfl rfl rfl (fun _ => Ex.mv rfl) ?_
      refine WP.p rfl rfl rfl rfl (fun _ => Ex.shr rfl rfl (m := k) rfl (c := ((n / 2 ^ k : Nat) : Int)) (shrN _ _ _ (by simp [IntKind.bits]; omega))) ?_
      refine WP.q (Keep.refl _ _) rfl rfl rfl rfl (fun w' hS => Ex.load ty69 rfl (hS.cell (M21.cell (i := 0) (v := (.slice (some ⟨gl, 0, none⟩) (d + 1) (d + 1))) rfl rfl) (fun f => f))) ?_
      refine WP.q (Keep.refl _ _) rfl rfl rfl rfl (fun w' hS => Ex.load ty69 rfl (hS.cell (M21.cell (i := 0) (v := (.slice (some ⟨gl, 0, none⟩) (d + 1) (d + 1))) rfl rfl) (fun f => f))) ?_
      refine WP.p rfl rfl rfl rfl (fun _ => Ex.ia Tryd.underlying69 sz22 rfl rfl ⟨by omega, by omega⟩) ?_
      refine WP.q (Keep.refl _ _) rfl rfl rfl rfl (fun w' hS => Ex.load ty22 rfl (hS.cell (M21.cell (i := 1) rfl (by simpa using hvk)) (fun f => f))) ?_
      refine WP.p rfl rfl rfl rfl (fun _ => Ex.slh Tryd.underlying22 sz28 rfl rfl (Int.natCast_nonneg _) (by omega)) ?_
      rw [Int.toNat_natCast]
      refine WP.p rfl rfl rfl rfl (fun _ => Ex.ia Tryd.underlying69 sz22 rfl rfl ⟨by omega, by omega⟩) ?_
      refine WP.a0 rfl rfl rfl (Ac.st M21 ty22 rfl rfl rfl (i := 1) rfl (by simp; omega)) ?_; rintro v39 w39 ⟨K39, M39⟩; refine .inl ⟨rfl, Keep nof w39, ?_⟩
      try dsimp only [List.set] at M39
      simp only [Int.toNat_natCast, Nat.mul_one, Nat.zero_add] at M39
      replace M39 := M39.cutL (i := 2) rfl hvk hlk (lev32 hls k) (by omega : n / 2 ^ k ≤ (levOf dNode e0 ls k).length)
      try dsimp only [List.set] at M39
      rw [htk, hset] at M39
      refine WP.nil ?_
      refine WX.normal_block (WX.next (?_))
      refine WC.region ?_
      refine WL.ex rfl rfl rfl (Ex.add rfl rfl (i64w _ (by omega) (by omega))) ?_
      refine WL.ex rfl rfl rfl (Ex.mv rfl) ?_
      refine WL.nil ?_
      refine WX.again (((k + 1, vs1.set k (.slice Ak (n / 2 ^ k) ck)) : Nat × List Value)) ?_ ?_ (.cons rfl (.cons rfl (.cons rfl (.cons rfl (.nil)))))
      · dsimp only; omega
      · exact ⟨by dsimp only; omega, by simp [hv1], M39⟩
    · obtain rfl : k = d + 1 := by omega
      rw [lvM_full (fun j h1 h2 => by omega)] at M17
      refine WC.exit ?_
      refine WX.exit_then (WX.exit_then (WX.exit_block (WX.next (?_))))
      refine WC.seq ?_
      refine WC.region ?_
      refine WL.ex rfl rfl rfl (Ex.asg rfl) ?_
      refine WL.nil ?_
      refine WX.next (?_)
      refine WC.ret ?_
      refine WX.ret1 rfl rfl ?_
      rw [e1]
      exact ⟨_, rfl, (Mem.closeS (Mem.closeS M17)).toTurn⟩

/- slices.Clone[[]sponsion/api.Hash,sponsion/api.Hash] -/
theorem cloneH_ok (w : World) (A : Option Addr) (c : Nat) (l : Hs) (hr : Rd w A (fl l)) (h32 : ∀ a ∈ l, H32 a) (hb : l.length ≤ 1099511627776) :
    Gives Tryd.prog 39 #[.slice A l.length c] w fun v w' => New w w' (row v 28 32 l.length (fl l)) := by
  have M0 := Mem.start w nof
  refine Gives.enter (n := 8) Tryd.func39 rfl Tryd.ntmps39 rfl (env := [(0, .slice A l.length c)]) rfl ?_
  refine WC.seq ?_
  refine WC.region ?_
  refine WL.ex rfl rfl rfl (Ex.asg rfl) ?_
  refine WL.nil ?_
  refine WX.next (?_)
  refine WC.seq ?_
  refine WC.seq ?_
  refine WC.region ?_
  refine WL.ex rfl rfl rfl (Ex.mv rfl) ?_
  refine WL.ex rfl rfl rfl (Ex.eqN Tryd.underlying22 rfl) ?_
  refine WL.nil ?_
  refine WX.next (?_)
  refine WC.cond rfl (fun hc => ?_) (fun hc => ?_)
  · have hl : l = [] := by
      cases l with
      | nil => rfl
      | cons b r => obtain ⟨b0, o0, h1, _⟩ := hr.plain (by rw [fl_len h32]; simp); subst h1; cases hc
    subst hl
    refine WC.seq ?_
    refine WC.region ?_
    refine WL.ex rfl rfl rfl (Ex.asg rfl) ?_
    refine WL.nil ?_
    refine WX.next (?_)
    refine WC.ret ?_
    refine WX.ret_then (?_)
    refine WX.ret1 rfl rfl ?_
    first | exact M0.toNew | exact (M0.free (r := row (.slice none 0 0) 28 32 0 []) (row_nil _ _ _) rfl).toNew
  · skip
    refine WC.skip ?_
    refine WX.next (?_)
    refine WC.seq ?_
    refine WC.region ?_
    refine WL.ac rfl rfl rfl (Ac.bs0 M0 Tryd.underlying22 sz28) ?_; rintro v5 w5 ⟨g5, rfl, hg5, K5, M5⟩
    refine WL.ex rfl rfl rfl (Ex.mv rfl) ?_
    refine WL.ac rfl rfl rfl (Ac.app M5 el22 rfl rfl (i := 0) rfl (fl_len h32) (M5.rd hr) (fl_one _) (by omega) (by unfold maxLen; omega)) ?_; rintro v7 w7 ⟨K7, M7⟩
    try dsimp only [List.set] at M7
    simp only [Nat.zero_add, List.nil_append] at M7
    refine WL.ex rfl rfl rfl (Ex.asg rfl) ?_
    refine WL.nil ?_
    refine WX.next (?_)
    refine WC.ret ?_
    refine WX.ret1 rfl rfl ?_
    first | exact M7.toNew | exact (M7.free (r := row (.slice none 0 0) 28 32 0 []) (row_nil _ _ _) rfl).toNew

end Go.Proofs.YtfgikoilgmddhaaDoor
