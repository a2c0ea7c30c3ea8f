/- Walks, written by gen.py off the translation's own print: each says what the Go function comes to. -/
import Derived.Test.YtfgikoilgmddhaaDoorVc
set_option linter.unusedVariables false
set_option linter.unusedSimpArgs false
namespace Go.Proofs.YtfgikoilgmddhaaDoor
open Go.Sx Go.RowKit
attribute [local irreducible] Ac Ex WL WC WX WP Gives sha

/- sponsion/tree.New#nil -/
theorem tNewNil_ok (w : World) (z : Int) (hz : z < 0 ∨ 32 < z) :
    Gives Tryd.prog 12 #[.int .i64 z] w fun u w1 => u = .pointer none ∧ Keep nof w w1 := by
  have M0 := Mem.start w nof
  refine Gives.enter (n := 61) Tryd.func12 rfl Tryd.ntmps12 rfl (env := [(0, .int .i64 z)]) rfl ?_
  refine WC.seq ?_
  refine WC.region ?_
  refine WL.ex rfl rfl rfl (Ex.asg rfl) ?_
  refine WL.nil ?_
  refine WX.next (?_)
  refine WC.seq ?_
  refine WC.seq ?_
  refine WC.region ?_
  refine WL.ex rfl rfl rfl (Ex.mv rfl) ?_
  refine WL.ex rfl rfl rfl (Ex.lss rfl rfl) ?_
  refine WL.ex rfl rfl rfl (Ex.mv rfl) ?_
  by_cases h1 : z < 0
  · rw [decide_eq_true h1]
    refine WL.no rfl rfl rfl rfl rfl rfl ?_
    refine WL.no rfl rfl rfl rfl rfl rfl ?_
    refine WL.ex rfl rfl rfl (Ex.pickT rfl rfl) ?_
    refine WL.nil ?_
    refine WX.next (?_)
    refine WC.yes rfl ?_
    refine WC.seq ?_
    refine WC.region ?_
    refine WL.ex rfl rfl rfl (Ex.asg rfl) ?_
    refine WL.nil ?_
    refine WX.next (?_)
    refine WC.ret ?_
    refine WX.ret_then (?_)
    refine WX.ret1 rfl rfl ?_
    exact ⟨rfl, M0.keep⟩
  · rw [decide_eq_false h1]
    refine WL.yes rfl rfl rfl rfl ?_
    refine WL.ex rfl rfl rfl (Ex.mv rfl) ?_
    refine WL.yes rfl rfl rfl rfl ?_
    refine WL.ex rfl rfl rfl (Ex.gtr rfl rfl) ?_
    refine WL.ex rfl rfl rfl (Ex.pickF rfl rfl) ?_
    refine WL.nil ?_
    refine WX.next (?_)
    refine WC.cond_dec rfl (fun hc10 => ?_) (fun hc10 => ?_)
    · skip
      refine WC.seq ?_
      refine WC.region ?_
      refine WL.ex rfl rfl rfl (Ex.asg rfl) ?_
      refine WL.nil ?_
      refine WX.next (?_)
      refine WC.ret ?_
      refine WX.ret_then (?_)
      refine WX.ret1 rfl rfl ?_
      exact ⟨rfl, M0.keep⟩
    · exfalso; omega

theorem acts_far {w w2 : World} {rs : List Res} {r : Res} {A : Option Addr} {acts : List Act} (M : Mem w w2 nof rs) (i : Nat) (hi : rs[i]? = some r) (hr : Rd w A (acts.flatMap actC)) (hok : ∀ a ∈ acts, ActOk a) : acts ≠ [] → ∀ b, A = some b → b.block ∉ r.fp := by
  intro hne b hb hm
  obtain ⟨b0, o0, hA, hlt, _⟩ := hr.plain (by
    rw [flat_len (fun a ha => act_len (hok a ha))]
    have := List.length_pos_iff.2 hne
    omega)
  rw [hA] at hb
  injection hb with hb
  subst hb
  rcases M.own r (List.mem_of_getElem? hi) _ hm with h | h
  · exact Nat.lt_irrefl _ (Nat.lt_of_lt_of_le hlt h)
  · exact h

/- sponsion/sponsionlaw10.TreePlays#out -/
theorem treePlays_out (w : World) (z : Int) (A : Option Addr) (c : Nat) (acts : List Act) (n : Nat) (hz : z < 0 ∨ 32 < z) (hT : Tabs w) :
    Gives Tryd.prog 7 #[.int .i64 z, .slice A acts.length c, .int .u64 (n : Int)] w fun u w1 => u = .bool true ∧ Keep nof w w1 := by
  have M0 := Mem.start w nof
  refine Gives.enter (n := 101) Tryd.func7 rfl Tryd.ntmps7 rfl (env := [(0, .int .i64 z), (1, .slice A acts.length c), (2, .int .u64 (n : Int))]) rfl ?_
  refine WC.seq ?_
  refine WC.region ?_
  refine WL.ex rfl rfl rfl (Ex.asg rfl) ?_
  refine WL.nil ?_
  refine WX.next (?_)
  refine WC.seq ?_
  refine WC.seq ?_
  refine WC.region ?_
  refine WL.ac rfl rfl rfl (Ac.call rfl Tryd.func11 nm11 rfl (lives10_ok w (hT.keep M0.keep))) ?_; rintro v2 w2 ⟨rfl, K2⟩
  have M2 := M0.step K2
  refine WL.ex rfl rfl rfl (Ex.not rfl) ?_
  refine WL.ex rfl rfl rfl (Ex.mv rfl) ?_
  refine WL.yes rfl rfl rfl rfl ?_
  refine WL.ex rfl rfl rfl (Ex.mv rfl) ?_
  refine WL.yes rfl rfl rfl rfl ?_
  refine WL.ex rfl rfl rfl (Ex.len Tryd.underlying44 rfl) ?_
  refine WL.yes rfl rfl rfl rfl ?_
  refine WL.ex rfl rfl rfl (Ex.gtr rfl rfl) ?_
  refine WL.ex rfl rfl rfl (Ex.pickF rfl rfl) ?_
  refine WL.nil ?_
  refine WX.next (?_)
  refine WC.cond_dec rfl (fun hc22 => ?_) (fun hc22 => ?_)
  · skip
    refine WC.seq ?_
    refine WC.region ?_
    refine WL.ac rfl rfl rfl (Ac.call rfl Tryd.func11 nm11 rfl (lives10_ok w2 (hT.keep M2.keep))) ?_; rintro v9 w9 ⟨rfl, K9⟩
    have M9 := M2.step K9
    refine WL.ex rfl rfl rfl (Ex.asg rfl) ?_
    refine WL.nil ?_
    refine WX.next (?_)
    refine WC.ret ?_
    refine WX.ret_then (?_)
    refine WX.ret1 rfl rfl ?_
    exact ⟨rfl, M9.keep⟩
  · skip
    refine WC.skip ?_
    refine WX.next (?_)
    refine WC.seq ?_
    refine WC.region ?_
    refine WL.ex rfl rfl rfl (Ex.mv rfl) ?_
    refine WL.ac rfl rfl rfl (Ac.call rfl Tryd.func12 nm12 rfl (tNewNil_ok w2 z hz)) ?_; rintro v12 w12 ⟨rfl, K12⟩
    have M12 := M2.step K12
    refine WL.ex rfl rfl rfl (Ex.asg rfl) ?_
    refine WL.nil ?_
    refine WX.next (?_)
    refine WC.seq ?_
    refine WC.seq ?_
    refine WC.region ?_
    refine WL.ex rfl rfl rfl (Ex.mv rfl) ?_
    refine WL.ex rfl rfl rfl (Ex.lss rfl rfl) ?_
    refine WL.ex rfl rfl rfl (Ex.mv rfl) ?_
    by_cases h1 : z < 0
    · rw [decide_eq_true h1]
      refine WL.no rfl rfl rfl rfl rfl rfl ?_
      refine WL.no rfl rfl rfl rfl rfl rfl ?_
      refine WL.ex rfl rfl rfl (Ex.pickT rfl rfl) ?_
      refine WL.nil ?_
      refine WX.next (?_)
      refine WC.yes rfl ?_
      refine WC.seq ?_
      refine WC.region ?_
      refine WL.ex rfl rfl rfl (Ex.mv rfl) ?_
      refine WL.ex rfl rfl rfl (Ex.eqPn Tryd.underlying25 rfl) ?_
      refine WL.ex rfl rfl rfl (Ex.asg rfl) ?_
      refine WL.nil ?_
      refine WX.next (?_)
      refine WC.ret ?_
      refine WX.ret_then (?_)
      refine WX.ret1 rfl rfl ?_
      exact ⟨rfl, M12.keep⟩
    · rw [decide_eq_false h1]
      refine WL.yes rfl rfl rfl rfl ?_
      refine WL.ex rfl rfl rfl (Ex.mv rfl) ?_
      refine WL.yes rfl rfl rfl rfl ?_
      refine WL.ex rfl rfl rfl (Ex.gtr rfl rfl) ?_
      refine WL.ex rfl rfl rfl (Ex.pickF rfl rfl) ?_
      refine WL.nil ?_
      refine WX.next (?_)
      refine WC.cond_dec rfl (fun hc31 => ?_) (fun hc31 => ?_)
      · skip
        refine WC.seq ?_
        refine WC.region ?_
        refine WL.ex rfl rfl rfl (Ex.mv rfl) ?_
        refine WL.ex rfl rfl rfl (Ex.eqPn Tryd.underlying25 rfl) ?_
        refine WL.ex rfl rfl rfl (Ex.asg rfl) ?_
        refine WL.nil ?_
        refine WX.next (?_)
        refine WC.ret ?_
        refine WX.ret_then (?_)
        refine WX.ret1 rfl rfl ?_
        exact ⟨rfl, M12.keep⟩
      · exfalso; omega

/- sponsion/sponsionlaw10.TreePlays -/
theorem treePlays_in (w : World) (d : Nat) (A : Option Addr) (c : Nat) (acts : List Act) (n : Nat) (hd : d ≤ 32) (hr : Rd w A (acts.flatMap actC)) (hok : ∀ a ∈ acts, ActOk a) (hn : n < 18446744073709551616) (hT : Tabs w) (hR : TabR w) :
    Gives Tryd.prog 7 #[.int .i64 (d : Int), .slice A acts.length c, .int .u64 (n : Int)] w fun u w1 => u = .bool true ∧ Keep nof w w1 := by
  have M0 := Mem.start w nof
  have hp2 := pow32 hd
  refine Gives.enter (n := 101) Tryd.func7 rfl Tryd.ntmps7 rfl (env := [(0, .int .i64 (d : Int)), (1, .slice A acts.length c), (2, .int .u64 (n : Int))]) rfl ?_
  refine WC.seq ?_
  refine WC.region ?_
  refine WL.ex rfl rfl rfl (Ex.asg rfl) ?_
  refine WL.nil ?_
  refine WX.next (?_)
  refine WC.seq ?_
  refine WC.seq ?_
  refine WC.region ?_
  refine WL.ac rfl rfl rfl (Ac.call rfl Tryd.func11 nm11 rfl (lives10_ok w (hT.keep M0.keep))) ?_; rintro v2 w2 ⟨rfl, K2⟩
  have M2 := M0.step K2
  refine WL.ex rfl rfl rfl (Ex.not rfl) ?_
  refine WL.ex rfl rfl rfl (Ex.mv rfl) ?_
  refine WL.yes rfl rfl rfl rfl ?_
  refine WL.ex rfl rfl rfl (Ex.mv rfl) ?_
  refine WL.yes rfl rfl rfl rfl ?_
  refine WL.ex rfl rfl rfl (Ex.len Tryd.underlying44 rfl) ?_
  refine WL.yes rfl rfl rfl rfl ?_
  refine WL.ex rfl rfl rfl (Ex.gtr rfl rfl) ?_
  refine WL.ex rfl rfl rfl (Ex.pickF rfl rfl) ?_
  refine WL.nil ?_
  refine WX.next (?_)
  refine WC.cond_dec rfl (fun hc22 => ?_) (fun hc22 => ?_)
  · skip
    refine WC.seq ?_
    refine WC.region ?_
    refine WL.ac rfl rfl rfl (Ac.call rfl Tryd.func11 nm11 rfl (lives10_ok w2 (hT.keep M2.keep))) ?_; rintro v9 w9 ⟨rfl, K9⟩
    have M9 := M2.step K9
    refine WL.ex rfl rfl rfl (Ex.asg rfl) ?_
    refine WL.nil ?_
    refine WX.next (?_)
    refine WC.ret ?_
    refine WX.ret_then (?_)
    refine WX.ret1 rfl rfl ?_
    exact ⟨rfl, M9.keep⟩
  · have hn40 : acts.length ≤ 40 := by omega
    refine WC.skip ?_
    refine WX.next (?_)
    refine WC.seq ?_
    refine WC.region ?_
    refine WL.ex rfl rfl rfl (Ex.mv rfl) ?_
    refine WL.ac rfl rfl rfl (Ac.call rfl Tryd.func12 nm12 rfl (tNew_ok w2 d hd (hT.keep M2.keep))) ?_; rintro v12 w12 ⟨g, gl, ge, rfl, N12⟩
    have M12 := (M2.new N12).openS
    refine WL.ex rfl rfl rfl (Ex.asg rfl) ?_
    refine WL.nil ?_
    refine WX.next (?_)
    refine WC.seq ?_
    refine WC.seq ?_
    refine WC.region ?_
    refine WL.ex rfl rfl rfl (Ex.mv rfl) ?_
    refine WL.ex rfl rfl rfl (Ex.lss rfl rfl) ?_
    refine WL.ex rfl rfl rfl (Ex.mv rfl) ?_
    rw [decide_eq_false (show ¬ (d : Int) < 0 by omega)]
    refine WL.yes rfl rfl rfl rfl ?_
    refine WL.ex rfl rfl rfl (Ex.mv rfl) ?_
    refine WL.yes rfl rfl rfl rfl ?_
    refine WL.ex rfl rfl rfl (Ex.gtr rfl rfl) ?_
    refine WL.ex rfl rfl rfl (Ex.pickF rfl rfl) ?_
    refine WL.nil ?_
    refine WX.next (?_)
    
    refine WC.no (congrArg some (congrArg Value.bool (decide_eq_false (by omega)))) ?_
    refine WC.skip ?_
    refine WX.next (?_)
    refine WC.seq ?_
    refine WC.region ?_
    refine WL.ex rfl rfl rfl (Ex.mv rfl) ?_
    refine WL.ex rfl rfl rfl (Ex.mv rfl) ?_
    refine WL.ex rfl rfl rfl (Ex.mv rfl) ?_
    refine WL.ac rfl rfl rfl (Ac.call rfl Tryd.func22 nm22 rfl (play_ok w12 g gl ge d (nilS (d + 1)) A c acts (M12.get (i := 1) rfl) (ES.of (M12.get (i := 0) rfl)) (M12.apart (i := 0) (j := 1) rfl rfl (by decide) ge (by simp [blk])) (M12.rd hr) hok (acts_far M12 1 rfl hr hok) hn40 hd (hT.keep M12.keep) (M12.tabF hT 1 rfl))) ?_; rintro v23 w23 ⟨g1, gl1, vs1, A1, c1, ls, rfl, hls, hl40, hlc, T23⟩
    have Mt : Mem w w23 nof [sep (treeR g1 gl1 ge d vs1 (lvOf dNode e0 d ls)) (row (.slice A1 ls.length c1) 28 32 ls.length (fl ls)), blk ge (fl (emps dNode e0 (d + 1))) 28] := (M12.turned (i := 1) rfl T23).pick [1, 0] (by decide) rfl
    have M23 := Mt.openS
    have hlz := lvOf_get (N := dNode) (e := e0) (d := d) (ls := ls) (j := 0) (by omega)
    rw [levOf_zero] at hlz
    refine WL.ex rfl rfl rfl (Ex.mv rfl) ?_
    refine WL.ex rfl rfl rfl (Ex.ext rfl rfl) ?_
    refine WL.ex rfl rfl rfl (Ex.ext rfl rfl) ?_
    refine WL.ex rfl rfl rfl (Ex.ext rfl rfl) ?_
    refine WL.ex rfl rfl rfl (Ex.asg rfl) ?_
    refine WL.ex rfl rfl rfl (Ex.asg rfl) ?_
    refine WL.ex rfl rfl rfl (Ex.asg rfl) ?_
    refine WL.nil ?_
    refine WX.next (?_)
    refine WC.seq ?_
    refine WC.seq ?_
    refine WC.region ?_
    refine WL.ex rfl rfl rfl (Ex.mv rfl) ?_
    refine WL.ex rfl rfl rfl (Ex.not rfl) ?_
    refine WL.ex rfl rfl rfl (Ex.mv rfl) ?_
    
    refine WL.yes rfl rfl rfl rfl ?_
    refine WL.ex rfl rfl rfl (Ex.mv rfl) ?_
    refine WL.yes rfl rfl rfl rfl ?_
    refine WL.ac rfl rfl rfl (Ac.call rfl Tryd.func28 nm28 rfl (tDepth_ok w23 g1 gl1 ge d vs1 _ (TreeS.of (M23.get (i := 0) rfl) (lvOf_len _ _)) hd)) ?_; rintro v35 w35 ⟨rfl, K35⟩
    have M35 := M23.step K35
    refine WL.yes rfl rfl rfl rfl ?_
    refine WL.ex rfl rfl rfl (Ex.mv rfl) ?_
    refine WL.yes rfl rfl rfl rfl ?_
    refine WL.ex rfl rfl rfl (Ex.neI rfl rfl) ?_
    rw [show (!decide ((d : Int) = (d : Int))) = false by simp]
    refine WL.ex rfl rfl rfl (Ex.pickF rfl rfl) ?_
    refine WL.ex rfl rfl rfl (Ex.mv rfl) ?_
    refine WL.yes rfl rfl rfl rfl ?_
    refine WL.ex rfl rfl rfl (Ex.mv rfl) ?_
    refine WL.yes rfl rfl rfl rfl ?_
    refine WL.ac rfl rfl rfl (Ac.call rfl Tryd.func14 nm14 rfl (tRoot_ok w35 g1 gl1 ge d vs1 ls (TreeS.of (M35.get (i := 0) rfl) (lvOf_len _ _)) (ES.of (M35.get (i := 2) rfl)) hls hd (hT.keep M35.keep))) ?_; rintro v41 w41 ⟨rfl, K41⟩
    have M41 := M35.step K41
    refine WL.yes rfl rfl rfl rfl ?_
    refine WL.ex rfl rfl rfl (Ex.mv rfl) ?_
    refine WL.yes rfl rfl rfl rfl ?_
    refine WL.ex rfl rfl rfl (Ex.mv rfl) ?_
    refine WL.yes rfl rfl rfl rfl ?_
    refine WL.ac rfl rfl rfl (Ac.call rfl Tryd.func25 nm25 rfl (rNode_ok w41 A1 c1 ls d 0 (M41.rdr (i := 1) rfl) hls (by omega) hd (by omega) (hR.keep0 M41.keep))) ?_; rintro v44 w44 ⟨rfl, K44⟩
    have M44 := M41.step K44
    refine WL.yes rfl rfl rfl rfl ?_
    refine WL.ex rfl rfl rfl (Ex.neA rfl rfl (eqHash w (nd32 hls d 0) (nd32 hls d 0))) ?_
    rw [decide_eq_true rfl]
    refine WL.ex rfl rfl rfl (Ex.pickF rfl rfl) ?_
    refine WL.nil ?_
    refine WX.next (?_)
    refine WC.no rfl ?_
    refine WC.skip ?_
    refine WX.next (?_)
    refine WC.seq ?_
    refine WC.seq ?_
    refine WC.region ?_
    refine WL.ex rfl rfl rfl (Ex.mv rfl) ?_
    refine WL.ex rfl rfl rfl (Ex.len Tryd.underlying22 rfl) ?_
    refine WL.ex rfl rfl rfl (Ex.mv rfl) ?_
    refine WL.nil ?_
    refine WX.next (?_)
    refine WC.block ?_
    refine WC.loop (σ := Nat) (fun i => [(2, .int .u64 (n : Int)), (7, .pointer (some ⟨g1, 0, none⟩)), (8, .slice A1 ls.length c1), (58, .slice A1 ls.length c1), (59, .int .i64 (ls.length : Int)), (60, .int .i64 (i : Int))]) (fun i wr => i ≤ ls.length ∧ Mem w wr nof [treeR g1 gl1 ge d vs1 (lvOf dNode e0 d ls), row (.slice A1 ls.length c1) 28 32 ls.length (fl ls)]) (fun i => ls.length - i) (0) ?_ (.cons rfl (.cons rfl (.cons rfl (.cons rfl (.cons rfl (.cons rfl (.nil))))))) ?_
    · exact ⟨by omega, (Mem.sub M44 (.cons_cons _ (.cons_cons _ (List.nil_sublist _))))⟩
    rintro i w50 ⟨hi, M50⟩
    refine WC.seq ?_
    refine WC.region ?_
    refine WL.ex rfl rfl rfl (Ex.lss rfl rfl) ?_
    refine WL.nil ?_
    refine WX.next (?_)
    refine WC.seq ?_
    refine WC.cond_dec rfl (fun hc61 => ?_) (fun hc61 => ?_)
    · obtain ⟨p, hpi⟩ : ∃ p, ls[i]? = some p := ⟨_, List.getElem?_eq_getElem (by omega)⟩
      have hp32 := hls p (List.mem_of_getElem? hpi)
      obtain ⟨gv, rfl⟩ := own_some (M50.get (i := 1) rfl) (by omega)
      have hgd : ls.getD i (List.replicate 32 0) = p := by rw [List.getD, hpi]; rfl
      refine WC.skip ?_
      refine WX.next (?_)
      refine WC.seq ?_
      refine WC.block ?_
      refine WC.seq ?_
      refine WC.region ?_
      refine WL.ex rfl rfl rfl (Ex.mv rfl) ?_
      refine WL.ex rfl rfl rfl (Ex.ia Tryd.underlying22 sz28 rfl rfl ⟨by omega, by omega⟩) ?_
      refine WL.ex rfl rfl rfl (Ex.loadA ty28 rfl (l := bytesV p) (h32_len hp32) (fl_at (M50.rdr (i := 1) rfl) hls hpi (by simp))) ?_
      refine WL.ac rfl rfl rfl (Ac.alloc M50 (l := bytesV (List.replicate 32 0)) (by kernel_rfl)) ?_; rintro v55 w55 ⟨gh, rfl, hg55, K55, M55⟩
      refine WL.ex rfl rfl rfl (Ex.asg rfl) ?_
      refine WL.ac0 rfl rfl (Ac.stA M55 ty28 rfl rfl rfl (h32_len (by first | assumption | exact h32_0)) (bytesV_one _) (i := 0) rfl (by first | (rw [h32_len (by first | assumption | exact h32_0), h32_len (by first | assumption | exact h32_0)]; decide) | (rw [h32_len (by first | assumption | exact h32_0)]; decide) | rw [h32_len (by first | assumption | exact h32_0)])) ?_; rintro v57 w57 ⟨K57, M57⟩
      try dsimp only [List.set] at M57
      rw [splice_all _ _ (by first | rw [h32_len (by first | assumption | exact h32_0), h32_len (by first | assumption | exact h32_0)] | rw [h32_len (by first | assumption | exact h32_0)])] at M57
      refine WL.nil ?_
      refine WX.next (?_)
      refine WC.seq ?_
      refine WC.region ?_
      refine WL.ex rfl rfl rfl (Ex.mv rfl) ?_
      refine WL.ex rfl rfl rfl (Ex.mv rfl) ?_
      refine WL.ex rfl rfl rfl (Ex.cvI Tryd.underlying3 Tryd.underlying23 rfl (u64w_lt _ (by omega))) ?_
      refine WL.ac rfl rfl rfl (Ac.call rfl Tryd.func29 nm29 rfl (tLeaf_ok w57 g1 gl1 ge d vs1 _ ls i (TreeS.of (M57.get (i := 1) rfl) (lvOf_len _ _)) hlz hls (by omega))) ?_; rintro v61 w61 ⟨rfl, K61⟩
      rw [hgd, decide_eq_true (show i < ls.length by omega)]
      have M61 := M57.step K61
      refine WL.ex rfl rfl rfl (Ex.mv rfl) ?_
      refine WL.ex rfl rfl rfl (Ex.ext rfl rfl) ?_
      refine WL.ex rfl rfl rfl (Ex.ext rfl rfl) ?_
      refine WL.ac rfl rfl rfl (Ac.alloc M61 (l := bytesV (List.replicate 32 0)) (by kernel_rfl)) ?_; rintro v65 w65 ⟨gx, rfl, hg65, K65, M65⟩
      refine WL.ac0 rfl rfl (Ac.stA M65 ty28 rfl rfl rfl (h32_len (by first | assumption | exact h32_0)) (bytesV_one _) (i := 0) rfl (by first | (rw [h32_len (by first | assumption | exact h32_0), h32_len (by first | assumption | exact h32_0)]; decide) | (rw [h32_len (by first | assumption | exact h32_0)]; decide) | rw [h32_len (by first | assumption | exact h32_0)])) ?_; rintro v66 w66 ⟨K66, M66⟩
      try dsimp only [List.set] at M66
      rw [splice_all _ _ (by first | rw [h32_len (by first | assumption | exact h32_0), h32_len (by first | assumption | exact h32_0)] | rw [h32_len (by first | assumption | exact h32_0)])] at M66
      refine WL.ex rfl rfl rfl (Ex.asg rfl) ?_
      refine WL.nil ?_
      refine WX.next (?_)
      refine WC.seq ?_
      refine WC.region ?_
      refine WL.ex rfl rfl rfl (Ex.mv rfl) ?_
      refine WL.ex rfl rfl rfl (Ex.not rfl) ?_
      refine WL.ex rfl rfl rfl (Ex.mv rfl) ?_
      
      refine WL.yes rfl rfl rfl rfl ?_
      refine WL.ex rfl rfl rfl (Ex.loadA ty28 rfl (h32_len (by first | assumption | exact h32_0)) (M66.rdw (i := 0) rfl)) ?_
      refine WL.yes rfl rfl rfl rfl ?_
      refine WL.ex rfl rfl rfl (Ex.loadA ty28 rfl (h32_len (by first | assumption | exact h32_0)) (M66.rdw (i := 1) rfl)) ?_
      refine WL.yes rfl rfl rfl rfl ?_
      refine WL.ex rfl rfl rfl (Ex.neA rfl rfl (eqHash w hp32 hp32)) ?_
      rw [decide_eq_true rfl]
      refine WL.ex rfl rfl rfl (Ex.pickF rfl rfl) ?_
      refine WL.nil ?_
      refine WX.next (?_)
      refine WC.no rfl ?_
      refine WC.skip ?_
      refine WX.normal_block (WX.next (?_))
      refine WC.region ?_
      refine WL.ex rfl rfl rfl (Ex.add rfl rfl (i64w _ (by omega) (by omega))) ?_
      refine WL.ex rfl rfl rfl (Ex.mv rfl) ?_
      refine WL.nil ?_
      refine WX.again (i + 1) ?_ ?_ (.cons rfl (.cons rfl (.cons rfl (.cons rfl (.cons rfl (.cons rfl (.nil)))))))
      · (try dsimp only); omega
      · exact ⟨by omega, (Mem.sub M66 (.cons _ (.cons _ (.refl _))))⟩
    · have hx32 : H32 (ls.getD n (List.replicate 32 0)) := by
        rw [List.getD]
        cases hg : ls[n]? with
        | none => exact h32_0
        | some a => exact hls a (List.mem_of_getElem? hg)
      refine WC.exit ?_
      refine WX.exit_then (WX.exit_then (WX.exit_block (WX.next (?_))))
      refine WC.seq ?_
      refine WC.region ?_
      refine WL.ex rfl rfl rfl (Ex.mv rfl) ?_
      refine WL.ex rfl rfl rfl (Ex.mv rfl) ?_
      refine WL.ac rfl rfl rfl (Ac.call rfl Tryd.func29 nm29 rfl (tLeaf_ok w50 g1 gl1 ge d vs1 _ ls n (TreeS.of (M50.get (i := 0) rfl) (lvOf_len _ _)) hlz hls hn)) ?_; rintro v79 w79 ⟨rfl, K79⟩
      have M79 := M50.step K79
      refine WL.ex rfl rfl rfl (Ex.mv rfl) ?_
      refine WL.ex rfl rfl rfl (Ex.ext rfl rfl) ?_
      refine WL.ex rfl rfl rfl (Ex.ext rfl rfl) ?_
      refine WL.ac rfl rfl rfl (Ac.alloc M79 (l := bytesV (List.replicate 32 0)) (by kernel_rfl)) ?_; rintro v83 w83 ⟨gy, rfl, hg83, K83, M83⟩
      refine WL.ac0 rfl rfl (Ac.stA M83 ty28 rfl rfl rfl (h32_len (by first | assumption | exact h32_0)) (bytesV_one _) (i := 0) rfl (by first | (rw [h32_len (by first | assumption | exact h32_0), h32_len (by first | assumption | exact h32_0)]; decide) | (rw [h32_len (by first | assumption | exact h32_0)]; decide) | rw [h32_len (by first | assumption | exact h32_0)])) ?_; rintro v84 w84 ⟨K84, M84⟩
      try dsimp only [List.set] at M84
      rw [splice_all _ _ (by first | rw [h32_len (by first | assumption | exact h32_0), h32_len (by first | assumption | exact h32_0)] | rw [h32_len (by first | assumption | exact h32_0)])] at M84
      refine WL.ex rfl rfl rfl (Ex.asg rfl) ?_
      refine WL.nil ?_
      refine WX.next (?_)
      refine WC.seq ?_
      refine WC.region ?_
      refine WL.ex rfl rfl rfl (Ex.mv rfl) ?_
      refine WL.ex rfl rfl rfl (Ex.mv rfl) ?_
      refine WL.ex rfl rfl rfl (Ex.mv rfl) ?_
      refine WL.ex rfl rfl rfl (Ex.len Tryd.underlying22 rfl) ?_
      refine WL.ex rfl rfl rfl (Ex.cvI Tryd.underlying3 Tryd.underlying23 rfl (u64w_lt _ (by omega))) ?_
      refine WL.ex rfl rfl rfl (Ex.lss rfl rfl) ?_
      refine WL.ex rfl rfl rfl (Ex.eqB Tryd.underlying4 rfl rfl) ?_
      rw [show (decide (n < ls.length) == decide ((n : Int) < (ls.length : Int))) = true by rw [beq_iff_eq]; exact decide_eq_decide.2 (by omega)]
      refine WL.ex rfl rfl rfl (Ex.mv rfl) ?_
      refine WL.yes rfl rfl rfl rfl ?_
      refine WL.ex rfl rfl rfl (Ex.mv rfl) ?_
      by_cases hnl : n < ls.length
      · rw [decide_eq_true hnl]
        refine WL.yes rfl rfl rfl rfl ?_
        refine WL.ex rfl rfl rfl (Ex.mv rfl) ?_
        refine WL.no rfl rfl rfl rfl rfl rfl ?_
        refine WL.no rfl rfl rfl rfl rfl rfl ?_
        refine WL.no rfl rfl rfl rfl rfl rfl ?_
        refine WL.yes rfl rfl rfl rfl ?_
        refine WL.ex rfl rfl rfl (Ex.pickT rfl rfl) ?_
        refine WL.ex rfl rfl rfl (Ex.pickT rfl rfl) ?_
        refine WL.ex rfl rfl rfl (Ex.asg rfl) ?_
        refine WL.nil ?_
        refine WX.next (?_)
        refine WC.ret ?_
        refine WX.ret1 rfl rfl ?_
        exact ⟨rfl, M84.keep⟩
      · rw [decide_eq_false hnl]
        refine WL.yes rfl rfl rfl rfl ?_
        refine WL.ex rfl rfl rfl (Ex.mv rfl) ?_
        refine WL.yes rfl rfl rfl rfl ?_
        refine WL.ex rfl rfl rfl (Ex.loadA ty28 rfl (h32_len (by first | assumption | exact h32_0)) (M84.rdw (i := 0) rfl)) ?_
        refine WL.yes rfl rfl rfl rfl ?_
        refine WL.ex rfl rfl rfl (Ex.bld bd28 (parts := []) (l := bytesV (List.replicate 32 0)) rfl rfl rfl rfl) ?_
        refine WL.yes rfl rfl rfl rfl ?_
        refine WL.ex rfl rfl rfl (Ex.eqA rfl rfl (eqHash w hx32 h32_0)) ?_
        rw [decide_eq_true (show ls.getD n (List.replicate 32 0) = List.replicate 32 0 by rw [List.getD, List.getElem?_eq_none (by omega)]; rfl)]
        refine WL.yes rfl rfl rfl rfl ?_
        refine WL.ex rfl rfl rfl (Ex.pickF rfl rfl) ?_
        refine WL.ex rfl rfl rfl (Ex.pickT rfl rfl) ?_
        refine WL.ex rfl rfl rfl (Ex.asg rfl) ?_
        refine WL.nil ?_
        refine WX.next (?_)
        refine WC.ret ?_
        refine WX.ret1 rfl rfl ?_
        exact ⟨rfl, M84.keep⟩
  -- UNUSED HINTS ['split:7.8']

theorem treePlays_walk (w : World) (z : Int) (A : Option Addr) (c : Nat) (acts : List Act) (n : Nat) (hr : Rd w A (acts.flatMap actC)) (hok : ∀ a ∈ acts, ActOk a) (hn : n < 18446744073709551616) (hT : Tabs w) (hR : TabR w) :
    Gives Tryd.prog 7 #[.int .i64 z, .slice A acts.length c, .int .u64 (n : Int)] w fun u w1 => u = .bool true ∧ Keep nof w w1 := by
  by_cases hz : z < 0 ∨ 32 < z
  · exact treePlays_out w z A c acts n hz hT
  · obtain ⟨d, rfl⟩ := Int.eq_ofNat_of_zero_le (show 0 ≤ z by omega)
    exact treePlays_in w d A c acts n (by omega) hr hok hn hT hR

end Go.Proofs.YtfgikoilgmddhaaDoor
