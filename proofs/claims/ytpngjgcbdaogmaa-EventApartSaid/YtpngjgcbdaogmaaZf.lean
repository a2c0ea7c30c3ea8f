/- Walks, written by gen.py off the translation's own print: each says what the Go function comes to. -/
import Derived.Test.YtpngjgcbdaogmaaZd
set_option linter.unusedVariables false
set_option linter.unusedSimpArgs false
namespace Go.Proofs.Ytpngjgcbdaogmaa
open Go.Sx Go.RowKit
attribute [local irreducible] Ac Ex WL WC WX WP Gives

/- sponsion/sponsionlaw09.EventApart -/
theorem evB_dec {es fs : List Ev} (h1 : ∀ t ∈ es, EvOk t) (h2 : ∀ t ∈ fs, EvOk t) (m1 : ∀ t ∈ es, mayE t) (m2 : ∀ t ∈ fs, mayE t) {i1 : Decidable (es.flatMap evB = fs.flatMap evB)} {i2 : Decidable (es = fs)} : (@decide (es.flatMap evB = fs.flatMap evB) i1 == @decide (es = fs) i2) = true := by
  have h := evB_inj h1 h2 m1 m2
  by_cases h2 : es = fs
  · rw [decide_eq_true h2, decide_eq_true (h.2 h2)]; rfl
  · rw [decide_eq_false h2, decide_eq_false (fun e => h2 (h.1 e))]; rfl
theorem flat_one_ev (es : List Ev) : ∀ u ∈ es.flatMap evC, u.oneCell' = true := by
  intro u hu
  obtain ⟨t, _, h⟩ := List.mem_flatMap.1 hu
  exact ev_one u h
theorem eventApart_walk (w : World) (A B : Option Addr) (c d : Nat) (es fs : List Ev) (hr : RdE w A es) (hr2 : RdE w B fs) :
    Gives Try.prog 11 #[.slice A es.length c, .slice B fs.length d] w fun u w1 => u = .bool true ∧ Keep nof w w1 := by
  have M0 := Mem.start w nof
  have hok := hr.ok
  have hok2 := hr2.ok
  have hoa : ∀ t ∈ es ++ fs, EvOk t := fun t ht => (List.mem_append.1 ht).elim (hok t) (hok2 t)
  refine Gives.enter (n := 70) Try.func11 rfl Try.ntmps11 rfl (env := [(0, .slice A es.length c), (1, .slice B fs.length d)]) rfl ?_
  refine WC.seq ?_
  refine WC.region ?_
  refine WL.ex rfl rfl rfl (Ex.asg rfl) ?_
  refine WL.nil ?_
  refine WX.next (?_)
  refine WC.seq ?_
  refine WC.seq ?_
  refine WC.region ?_
  refine WL.ac rfl rfl rfl (Ac.call rfl Try.func48 nm48 rfl (lives09_ok w)) ?_; rintro v2 w2 ⟨rfl, K2⟩
  have M2 := M0.step K2
  refine WL.ex rfl rfl rfl (Ex.not rfl) ?_
  refine WL.ex rfl rfl rfl (Ex.mv rfl) ?_
  refine WL.yes rfl rfl rfl rfl ?_
  refine WL.ex rfl rfl rfl (Ex.mv rfl) ?_
  refine WL.yes rfl rfl rfl rfl ?_
  refine WL.ex rfl rfl rfl (Ex.len Try.underlying83 rfl) ?_
  refine WL.yes rfl rfl rfl rfl ?_
  refine WL.ex rfl rfl rfl (Ex.gtr rfl rfl) ?_
  refine WL.ex rfl rfl rfl (Ex.pickF rfl rfl) ?_
  refine WL.ex rfl rfl rfl (Ex.mv rfl) ?_
  by_cases hgt : (10 : Int) < es.length
  · rw [decide_eq_true hgt]
    refine WL.no rfl rfl rfl rfl rfl rfl ?_
    refine WL.no rfl rfl rfl rfl rfl rfl ?_
    refine WL.no rfl rfl rfl rfl rfl rfl ?_
    refine WL.ex rfl rfl rfl (Ex.pickT rfl rfl) ?_
    refine WL.nil ?_
    refine WX.next (?_)
    refine WC.yes rfl ?_
    refine WC.seq ?_
    refine WC.region ?_
    refine WL.ac rfl rfl rfl (Ac.call rfl Try.func48 nm48 rfl (lives09_ok w2)) ?_; rintro v11 w11 ⟨rfl, K11⟩
    have M11 := M2.step K11
    refine WL.ex rfl rfl rfl (Ex.asg rfl) ?_
    refine WL.nil ?_
    refine WX.next (?_)
    refine WC.ret ?_
    refine WX.ret_then (?_)
    refine WX.ret1 rfl rfl ?_
    exact ⟨rfl, M11.keep⟩
  · rw [decide_eq_false hgt]
    refine WL.yes rfl rfl rfl rfl ?_
    refine WL.ex rfl rfl rfl (Ex.mv rfl) ?_
    refine WL.yes rfl rfl rfl rfl ?_
    refine WL.ex rfl rfl rfl (Ex.len Try.underlying83 rfl) ?_
    refine WL.yes rfl rfl rfl rfl ?_
    refine WL.ex rfl rfl rfl (Ex.gtr rfl rfl) ?_
    refine WL.ex rfl rfl rfl (Ex.pickF rfl rfl) ?_
    refine WL.nil ?_
    refine WX.next (?_)
    refine WC.cond_dec rfl (fun hc22 => ?_) (fun hc22 => ?_)
    · skip
      refine WC.seq ?_
      refine WC.region ?_
      refine WL.ac rfl rfl rfl (Ac.call rfl Try.func48 nm48 rfl (lives09_ok w2)) ?_; rintro v17 w17 ⟨rfl, K17⟩
      have M17 := M2.step K17
      refine WL.ex rfl rfl rfl (Ex.asg rfl) ?_
      refine WL.nil ?_
      refine WX.next (?_)
      refine WC.ret ?_
      refine WX.ret_then (?_)
      refine WX.ret1 rfl rfl ?_
      exact ⟨rfl, M17.keep⟩
    · have hn : es.length ≤ 10 ∧ fs.length ≤ 10 := by omega
      refine WC.skip ?_
      refine WX.next (?_)
      refine WC.seq ?_
      refine WC.region ?_
      refine WL.ex rfl rfl rfl (Ex.mv rfl) ?_
      refine WL.ac rfl rfl rfl (Ac.call rfl Try.func49 nm49 rfl (eBytes_or w2 _ _ es (hr.keep M2.keep) (by omega))) ?_; rintro v20 w20 ⟨v, L, E, rfl, N20, hEy, hEn⟩
      have M20 := M2.new N20
      obtain ⟨Av, cv, rfl⟩ := own_slice (M20.get (i := 0) rfl)
      refine WL.ex rfl rfl rfl (Ex.mv rfl) ?_
      refine WL.ex rfl rfl rfl (Ex.ext rfl rfl) ?_
      refine WL.ex rfl rfl rfl (Ex.ext rfl rfl) ?_
      refine WL.ex rfl rfl rfl (Ex.asg rfl) ?_
      refine WL.ex rfl rfl rfl (Ex.asg rfl) ?_
      refine WL.nil ?_
      refine WX.next (?_)
      refine WC.seq ?_
      refine WC.region ?_
      refine WL.ex rfl rfl rfl (Ex.mv rfl) ?_
      refine WL.ac rfl rfl rfl (Ac.call rfl Try.func49 nm49 rfl (eBytes_or w20 _ _ fs (hr2.keep M20.keep) (by omega))) ?_; rintro v27 w27 ⟨u, Q, G, rfl, N27, hGy, hGn⟩
      have M27 := M20.new N27
      obtain ⟨Au, cu, rfl⟩ := own_slice (M27.get (i := 0) rfl)
      refine WL.ex rfl rfl rfl (Ex.mv rfl) ?_
      refine WL.ex rfl rfl rfl (Ex.ext rfl rfl) ?_
      refine WL.ex rfl rfl rfl (Ex.ext rfl rfl) ?_
      refine WL.ex rfl rfl rfl (Ex.asg rfl) ?_
      refine WL.ex rfl rfl rfl (Ex.asg rfl) ?_
      refine WL.nil ?_
      refine WX.next (?_)
      refine WC.seq ?_
      refine WC.seq ?_
      refine WC.region ?_
      refine WL.ex rfl rfl rfl (Ex.mv rfl) ?_
      refine WL.ex rfl rfl rfl (Ex.neI rfl rfl) ?_
      by_cases hm1 : ¬ ∀ t ∈ es, mayE t
      · obtain ⟨rfl, rfl⟩ := hEn hm1
        refine WL.ex rfl rfl rfl (Ex.mv rfl) ?_
        refine WL.no rfl rfl rfl rfl rfl rfl ?_
        refine WL.no rfl rfl rfl rfl rfl rfl ?_
        refine WL.ex rfl rfl rfl (Ex.pickT rfl rfl) ?_
        refine WL.nil ?_
        refine WX.next (?_)
        refine WC.yes rfl ?_
        refine WC.seq ?_
        refine WC.region ?_
        refine WL.ex rfl rfl rfl (Ex.asg rfl) ?_
        refine WL.nil ?_
        refine WX.next (?_)
        refine WC.ret ?_
        refine WX.ret_then (?_)
        refine WX.ret1 rfl rfl ?_
        exact ⟨rfl, M27.keep⟩
      · replace hm1 := Classical.byContradiction hm1
        obtain ⟨rfl, rfl⟩ := hEy hm1
        refine WL.ex rfl rfl rfl (Ex.mv rfl) ?_
        refine WL.yes rfl rfl rfl rfl ?_
        refine WL.ex rfl rfl rfl (Ex.mv rfl) ?_
        refine WL.yes rfl rfl rfl rfl ?_
        refine WL.ex rfl rfl rfl (Ex.neI rfl rfl) ?_
        by_cases hm2 : ¬ ∀ t ∈ fs, mayE t
        · obtain ⟨rfl, rfl⟩ := hGn hm2
          refine WL.ex rfl rfl rfl (Ex.pickF rfl rfl) ?_
          refine WL.nil ?_
          refine WX.next (?_)
          refine WC.yes rfl ?_
          refine WC.seq ?_
          refine WC.region ?_
          refine WL.ex rfl rfl rfl (Ex.asg rfl) ?_
          refine WL.nil ?_
          refine WX.next (?_)
          refine WC.ret ?_
          refine WX.ret_then (?_)
          refine WX.ret1 rfl rfl ?_
          exact ⟨rfl, M27.keep⟩
        · replace hm2 := Classical.byContradiction hm2
          obtain ⟨rfl, rfl⟩ := hGy hm2
          have hma : ∀ t ∈ es ++ fs, mayE t := fun t ht => (List.mem_append.1 ht).elim (hm1 t) (hm2 t)
          have hlE := evsB_len hok
          have hlF := evsB_len hok2
          refine WL.ex rfl rfl rfl (Ex.pickF rfl rfl) ?_
          refine WL.nil ?_
          refine WX.next (?_)
          refine WC.no rfl ?_
          refine WC.skip ?_
          refine WX.next (?_)
          refine WC.seq ?_
          refine WC.seq ?_
          refine WC.draw (Keep nof w27.drew) [] (.one 0 0 (.one 2 0 (.one 5 0 (.one 6 0 (.one 1 1 (.one 3 1 (.one 4 0 (.one 7 2 (.one 8 2 (.one 9 0 .nil)))))))))) mixed (by kernel_rfl) (by kernel_rfl) (by kernel_rfl) (HQ.then_ (HQ.then_ HQ.body)) ?_
          obtain ⟨w44, hw44⟩ : ∃ v, v = w27.drew := ⟨_, rfl⟩
          have D44 : Keep nof w27 w44 := by rw [hw44]; exact Keep.drew _ _
          have M44 := M27.step D44
          rw [← hw44]; clear hw44
          refine WP.p rfl rfl rfl rfl (fun _ => Ex.mv rfl) ?_
          refine WP.p rfl rfl rfl rfl (fun _ => Ex.mv rfl) ?_
          refine WP.p rfl rfl rfl rfl (fun _ => Ex.mv rfl) ?_
          refine WP.p rfl rfl rfl rfl (fun _ => Ex.mv rfl) ?_
          refine WP.q (Keep.refl _ _) rfl rfl rfl rfl (fun w' hS => Ex.cvBS Try.underlying25 Try.underlying5 Try.underlying9 rfl ((M44.rdr (i := 1) rfl).keep0 hS)) ?_
          refine WP.q (Keep.refl _ _) rfl rfl rfl rfl (fun w' hS => Ex.cvBS Try.underlying25 Try.underlying5 Try.underlying9 rfl ((M44.rdr (i := 0) rfl).keep0 hS)) ?_
          refine WP.p rfl rfl rfl rfl (fun _ => Ex.eqS rfl rfl) ?_
          refine WP.as rfl rfl rfl rfl (Ac.call rfl Try.func50 nm50 rfl (refs_ok w44 _ _ fs (hr2.keep M44.keep) (by omega))) ?_; rintro v52 w52 N52
          refine ⟨Keep nof w52, fun u h => N52.keep.trans h, Keep.refl _ _, ?_⟩
          have M52 := M44.new N52
          obtain ⟨Aq, cq, rfl⟩ := own_slice (M52.get (i := 0) rfl)
          refine WP.as rfl rfl rfl rfl (Ac.call rfl Try.func55 nm55 rfl (same_ok w52 _ _ _ _ _ _ (hr.keep M52.keep) ⟨M52.rdr (i := 0) rfl, hok2⟩ (by omega) (by omega))) ?_; rintro v53 w53 ⟨rfl, K53⟩
          refine ⟨Keep nof w53, fun u h => K53.trans h, Keep.refl _ _, ?_⟩
          have M53 := M52.step K53
          refine WP.p rfl rfl rfl rfl (fun _ => Ex.neB Try.underlying4 rfl rfl) ?_
          rw [evB_dec hok hok2 hm1 hm2]
          refine WP.nil ?_
          refine WX.next (?_)
          refine WC.no rfl ?_
          refine WC.skip ?_
          refine WX.next (?_)
          refine WC.seq ?_
          refine WC.region ?_
          refine WL.ac rfl rfl rfl (Ac.bs0 M53 Try.underlying25 sz5) ?_; rintro v55 w55 ⟨ge, rfl, hg55, K55, M55⟩
          refine WL.ex rfl rfl rfl (Ex.mv rfl) ?_
          refine WL.ac rfl rfl rfl (Ac.app M55 el25 rfl rfl (i := 0) rfl (by simp) (M55.rdr (i := 3) rfl) (bytesV_one _) (by omega) (by unfold maxLen; omega)) ?_; rintro v57 w57 ⟨K57, M57⟩
          try dsimp only [List.set] at M57
          refine WL.ex rfl rfl rfl (Ex.mv rfl) ?_
          refine WL.ac rfl rfl rfl (Ac.app M57 el25 rfl rfl (i := 0) rfl (by simp) (M57.rdr (i := 2) rfl) (bytesV_one _) (by omega) (by unfold maxLen; omega)) ?_; rintro v59 w59 ⟨K59, M59⟩
          try dsimp only [List.set] at M59
          rw [List.nil_append, ← bytesV_append, Nat.zero_add, ← List.length_append, ← List.flatMap_append] at M59
          obtain ⟨Ao, co, rfl⟩ := own_slice (M59.get (i := 0) rfl)
          refine WL.ac rfl rfl rfl (Ac.call rfl Try.func54 nm54 rfl (eRead_walk w59 _ _ _ (M59.rdr (i := 0) rfl) (by rw [evsB_len hoa, List.length_append]; omega))) ?_; rintro v60 w60 ⟨v60, rfl, N60⟩
          rw [eAll_B hoa hma] at N60 ⊢
          dsimp only at N60
          have M60 := M59.new N60
          obtain ⟨Az, cz, rfl⟩ := own_slice (M60.get (i := 0) rfl)
          refine WL.ex rfl rfl rfl (Ex.mv rfl) ?_
          refine WL.ex rfl rfl rfl (Ex.ext rfl rfl) ?_
          refine WL.ex rfl rfl rfl (Ex.ext rfl rfl) ?_
          refine WL.ex rfl rfl rfl (Ex.asg rfl) ?_
          refine WL.ex rfl rfl rfl (Ex.asg rfl) ?_
          refine WL.nil ?_
          refine WX.next (?_)
          refine WC.seq ?_
          refine WC.region ?_
          refine WL.ex rfl rfl rfl (Ex.mv rfl) ?_
          refine WL.ex rfl rfl rfl (Ex.eqI rfl rfl) ?_
          
          refine WL.ex rfl rfl rfl (Ex.mv rfl) ?_
          refine WL.yes rfl rfl rfl rfl ?_
          refine WL.ex rfl rfl rfl (Ex.mv rfl) ?_
          refine WL.yes rfl rfl rfl rfl ?_
          refine WL.ex rfl rfl rfl (Ex.mv rfl) ?_
          refine WL.yes rfl rfl rfl rfl ?_
          refine WL.ac rfl rfl rfl (Ac.call rfl Try.func50 nm50 rfl (refs_ok w60 _ _ es (hr.keep M60.keep) (by omega))) ?_; rintro v71 w71 N71
          have M71 := M60.new N71
          obtain ⟨Aq1, cq1, rfl⟩ := own_slice (M71.get (i := 0) rfl)
          refine WL.yes rfl rfl rfl rfl ?_
          refine WL.ex rfl rfl rfl (Ex.mv rfl) ?_
          refine WL.yes rfl rfl rfl rfl ?_
          refine WL.ac rfl rfl rfl (Ac.call rfl Try.func50 nm50 rfl (refs_ok w71 _ _ fs (hr2.keep M71.keep) (by omega))) ?_; rintro v73 w73 N73
          have M73 := M71.new N73
          obtain ⟨Aq2, cq2, rfl⟩ := own_slice (M73.get (i := 0) rfl)
          refine WL.yes rfl rfl rfl rfl ?_
          refine WL.ac rfl rfl rfl (Ac.app M73 el86 rfl rfl (i := 1) rfl (evs_len hok2) (M73.rdr (i := 0) rfl) (flat_one_ev _) (by omega) (by unfold maxLen; omega)) ?_; rintro v74 w74 ⟨K74, M74⟩
          try dsimp only [List.set] at M74
          rw [← List.flatMap_append, ← List.length_append] at M74
          obtain ⟨Ao2, co2, rfl⟩ := own_slice (M74.get (i := 1) rfl)
          refine WL.yes rfl rfl rfl rfl ?_
          refine WL.ac rfl rfl rfl (Ac.call rfl Try.func55 nm55 rfl (same_ok w74 _ _ _ _ _ _ ⟨M74.rdr (i := 2) rfl, hoa⟩ ⟨M74.rdr (i := 1) rfl, hoa⟩ (by rw [List.length_append]; omega) (by rw [List.length_append]; omega))) ?_; rintro v75 w75 ⟨rfl, K75⟩
          rw [decide_eq_true rfl]
          have M75 := M74.step K75
          refine WL.ex rfl rfl rfl (Ex.pickT rfl rfl) ?_
          refine WL.ex rfl rfl rfl (Ex.asg rfl) ?_
          refine WL.nil ?_
          refine WX.next (?_)
          refine WC.ret ?_
          refine WX.ret1 rfl rfl ?_
          exact ⟨rfl, M75.keep⟩

end Go.Proofs.Ytpngjgcbdaogmaa
