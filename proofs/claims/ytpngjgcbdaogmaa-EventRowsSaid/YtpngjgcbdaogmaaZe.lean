/- Walks, written by gen.py off the translation's own print: each says what the Go function comes to. -/
import Derived.Test.YtpngjgcbdaogmaaZd
set_option linter.unusedVariables false
set_option linter.unusedSimpArgs false
namespace Go.Proofs.Ytpngjgcbdaogmaa
open Go.Sx Go.RowKit
attribute [local irreducible] Ac Ex WL WC WX WP Gives

/- sponsion/sponsionlaw09.EventRows -/
theorem eventRows_walk (w : World) (A : Option Addr) (c : Nat) (es : List Ev) (hr : RdE w A es) :
    Gives Try.prog 9 #[.slice A es.length c] w fun u w1 => u = .bool true ∧ Keep nof w w1 := by
  have M0 := Mem.start w nof
  have hok := hr.ok
  refine Gives.enter (n := 85) Try.func9 rfl Try.ntmps9 rfl (env := [(0, .slice A es.length c)]) rfl ?_
  refine WC.seq ?_
  refine WC.region ?_
  refine WL.ex rfl rfl rfl (Ex.asg rfl) ?_
  refine WL.nil ?_
  refine WX.next (?_)
  refine WC.seq ?_
  refine WC.seq ?_
  refine WC.region ?_
  refine WL.ac rfl rfl rfl (Ac.call rfl Try.func48 nm48 rfl (lives09_ok w)) ?_; rintro v2 w2 ⟨rfl, K2⟩
  have M2 := M0.step K2
  refine WL.ex rfl rfl rfl (Ex.not rfl) ?_
  refine WL.ex rfl rfl rfl (Ex.mv rfl) ?_
  refine WL.yes rfl rfl rfl rfl ?_
  refine WL.ex rfl rfl rfl (Ex.mv rfl) ?_
  refine WL.yes rfl rfl rfl rfl ?_
  refine WL.ex rfl rfl rfl (Ex.len Try.underlying83 rfl) ?_
  refine WL.yes rfl rfl rfl rfl ?_
  refine WL.ex rfl rfl rfl (Ex.gtr rfl rfl) ?_
  refine WL.ex rfl rfl rfl (Ex.pickF rfl rfl) ?_
  refine WL.nil ?_
  refine WX.next (?_)
  refine WC.cond_dec rfl (fun hc18 => ?_) (fun hc18 => ?_)
  · skip
    refine WC.seq ?_
    refine WC.region ?_
    refine WL.ac rfl rfl rfl (Ac.call rfl Try.func48 nm48 rfl (lives09_ok w2)) ?_; rintro v9 w9 ⟨rfl, K9⟩
    have M9 := M2.step K9
    refine WL.ex rfl rfl rfl (Ex.asg rfl) ?_
    refine WL.nil ?_
    refine WX.next (?_)
    refine WC.ret ?_
    refine WX.ret_then (?_)
    refine WX.ret1 rfl rfl ?_
    exact ⟨rfl, M9.keep⟩
  · have hn : es.length ≤ 20 := by omega
    refine WC.skip ?_
    refine WX.next (?_)
    refine WC.seq ?_
    refine WC.region ?_
    refine WL.ex rfl rfl rfl (Ex.mv rfl) ?_
    refine WL.ac rfl rfl rfl (Ac.call rfl Try.func49 nm49 rfl (eBytes_or w2 _ _ es (hr.keep M2.keep) (by omega))) ?_; rintro v12 w12 ⟨v, L, E, rfl, N12, hEy, hEn⟩
    have M12 := M2.new N12
    obtain ⟨Av, cv, rfl⟩ := own_slice (M12.get (i := 0) rfl)
    refine WL.ex rfl rfl rfl (Ex.mv rfl) ?_
    refine WL.ex rfl rfl rfl (Ex.ext rfl rfl) ?_
    refine WL.ex rfl rfl rfl (Ex.ext rfl rfl) ?_
    refine WL.ex rfl rfl rfl (Ex.asg rfl) ?_
    refine WL.ex rfl rfl rfl (Ex.asg rfl) ?_
    refine WL.nil ?_
    refine WX.next (?_)
    refine WC.seq ?_
    refine WC.region ?_
    refine WL.ex rfl rfl rfl (Ex.asg rfl) ?_
    refine WL.nil ?_
    refine WX.next (?_)
    refine WC.seq ?_
    refine WC.seq ?_
    refine WC.region ?_
    refine WL.ex rfl rfl rfl (Ex.mv rfl) ?_
    refine WL.ac rfl rfl rfl (Ac.call rfl Try.func50 nm50 rfl (refs_ok w12 _ _ es (hr.keep M12.keep) (by omega))) ?_; rintro v20 w20 N20
    have M20 := M12.new N20
    obtain ⟨Aq, cq, rfl⟩ := own_slice (M20.get (i := 0) rfl)
    refine WL.ex rfl rfl rfl (Ex.len Try.underlying86 rfl) ?_
    refine WL.ex rfl rfl rfl (Ex.mv rfl) ?_
    refine WL.nil ?_
    refine WX.next (?_)
    refine WC.block ?_
    refine WC.loop (σ := Nat) (fun i => [(0, .slice A es.length c), (3, .slice Av L.length cv), (4, .int .i64 E), (5, str ((es.take i).flatMap evB)), (26, .slice Aq es.length cq), (27, .int .i64 (es.length : Int)), (28, .int .i64 (i : Int))]) (fun i wr => i ≤ es.length ∧ (∀ t ∈ es.take i, mayE t) ∧ Mem w wr nof [row (.slice Aq es.length cq) 89 47 es.length (es.flatMap evC), row (.slice Av L.length cv) 5 1 L.length (bytesV L)]) (fun i => es.length - i) (0) ?_ (.cons rfl (.cons rfl (.cons rfl (.cons rfl (.cons rfl (.cons rfl (.cons rfl (.nil)))))))) ?_
    · exact ⟨by omega, by simp, M20⟩
    rintro i w23 ⟨hi, hmt, M23⟩
    refine WC.seq ?_
    refine WC.region ?_
    refine WL.ex rfl rfl rfl (Ex.lss rfl rfl) ?_
    refine WL.nil ?_
    refine WX.next (?_)
    refine WC.seq ?_
    refine WC.cond_dec rfl (fun hc29 => ?_) (fun hc29 => ?_)
    · obtain ⟨p, hpi⟩ : ∃ p, es[i]? = some p := ⟨_, List.getElem?_eq_getElem (by omega)⟩
      have hpm : p ∈ es := List.mem_of_getElem? hpi
      have hpo := hok p hpm
      obtain ⟨gq, rfl⟩ := own_some (M23.get (i := 0) rfl) (by omega)
      refine WC.skip ?_
      refine WX.next (?_)
      refine WC.seq ?_
      refine WC.block ?_
      refine WC.seq ?_
      refine WC.region ?_
      refine WL.ex rfl rfl rfl (Ex.ia Try.underlying86 sz89 rfl rfl ⟨by omega, by omega⟩) ?_
      refine WL.ex rfl rfl rfl (Ex.loadA ty89 rfl (l := evC p) (ev_len hpo) (Rd.flat (M23.rdr (i := 0) rfl) (i := (i : Int).toNat) (fun t ht => ev_len (hok t ht)) (by simpa using hpi))) ?_
      refine WL.ac rfl rfl rfl (Ac.alloc M23 (l := evC ev0) (by kernel_rfl)) ?_; rintro v27 w27 ⟨gi, rfl, hg27, K27, M27⟩
      refine WL.ac0 rfl rfl (Ac.stA M27 ty89 rfl rfl (vs := evC p) rfl (ev_len hpo) ev_one (i := 0) rfl (by rw [ev_len hpo, ev_len ev0_ok]; decide)) ?_; rintro v28 w28 ⟨K28, M28⟩
      try dsimp only [List.set] at M28
      rw [splice_all _ _ (by rw [ev_len hpo, ev_len ev0_ok])] at M28
      refine WL.nil ?_
      refine WX.next (?_)
      refine WC.seq ?_
      refine WC.region ?_
      refine WL.ex rfl rfl rfl (Ex.loadA ty89 rfl (l := evC p) (ev_len hpo) (M28.rdw (i := 0) rfl)) ?_
      refine WL.ac rfl rfl rfl (Ac.call rfl Try.func51 nm51 rfl (may9_ok w28 _ hpo)) ?_; rintro v30 w30 ⟨rfl, K30⟩
      have M30 := M28.step K30
      by_cases hm : mayE p
      · rw [decide_eq_true hm]
        refine WL.ex rfl rfl rfl (Ex.asg rfl) ?_
        refine WL.nil ?_
        refine WX.next (?_)
        refine WC.seq ?_
        refine WC.region ?_
        refine WL.ex rfl rfl rfl (Ex.loadA ty89 rfl (l := evC p) (ev_len hpo) (M30.rdw (i := 0) rfl)) ?_
        refine WL.ac rfl rfl rfl (Ac.call rfl Try.func52 nm52 rfl (eCheck_ok w30 _ hpo)) ?_; rintro v33 w33 ⟨rfl, K33⟩
        have M33 := M30.step K33
        refine WL.ex rfl rfl rfl (Ex.asg rfl) ?_
        refine WL.nil ?_
        refine WX.next (?_)
        refine WC.seq ?_
        refine WC.seq ?_
        refine WC.region ?_
        refine WL.ex rfl rfl rfl (Ex.mv rfl) ?_
        refine WL.ex rfl rfl rfl (Ex.mv rfl) ?_
        refine WL.ex rfl rfl rfl (Ex.eqI rfl rfl) ?_
        first | rw [if_pos hm] | rw [if_neg hm]
        refine WL.ex rfl rfl rfl (Ex.neB Try.underlying4 rfl rfl) ?_
        
        refine WL.ex rfl rfl rfl (Ex.mv rfl) ?_
        refine WL.yes rfl rfl rfl rfl ?_
        refine WL.ex rfl rfl rfl (Ex.mv rfl) ?_
        refine WL.yes rfl rfl rfl rfl ?_
        refine WL.ex rfl rfl rfl (Ex.not rfl) ?_
        refine WL.yes rfl rfl rfl rfl ?_
        refine WL.ex rfl rfl rfl (Ex.mv rfl) ?_
        refine WL.no rfl rfl rfl rfl rfl rfl ?_
        refine WL.no rfl rfl rfl rfl rfl rfl ?_
        refine WL.yes rfl rfl rfl rfl ?_
        refine WL.ex rfl rfl rfl (Ex.pickF rfl rfl) ?_
        refine WL.ex rfl rfl rfl (Ex.pickF rfl rfl) ?_
        refine WL.nil ?_
        refine WX.next (?_)
        refine WC.no rfl ?_
        refine WC.skip ?_
        refine WX.next (?_)
        refine WC.seq ?_
        refine WC.seq ?_
        refine WC.region ?_
        refine WL.ex rfl rfl rfl (Ex.mv rfl) ?_
        refine WL.ex rfl rfl rfl (Ex.not rfl) ?_
        refine WL.nil ?_
        refine WX.next (?_)
        refine WC.no rfl ?_
        refine WC.skip ?_
        refine WX.next (?_)
        refine WC.region ?_
        refine WL.ex rfl rfl rfl (Ex.mv rfl) ?_
        refine WL.ex rfl rfl rfl (Ex.loadA ty89 rfl (l := evC p) (ev_len hpo) (M33.rdw (i := 0) rfl)) ?_
        refine WL.ac rfl rfl rfl (Ac.call rfl Try.func53 nm53 rfl (text9_ok w33 _ hpo)) ?_; rintro v49 w49 ⟨rfl, K49⟩
        have M49 := M33.step K49
        refine WL.ex rfl rfl rfl (Ex.addS rfl rfl (by rw [evsB_len (fun t ht => hok t (List.mem_of_mem_take ht)), evB_len hpo]; simp; omega)) ?_
        rw [← evs_snoc hpi]
        refine WL.ex rfl rfl rfl (Ex.asg rfl) ?_
        refine WL.nil ?_
        refine WX.normal_block (WX.next (?_))
        refine WC.region ?_
        refine WL.ex rfl rfl rfl (Ex.add rfl rfl (i64w _ (by omega) (by omega))) ?_
        refine WL.ex rfl rfl rfl (Ex.mv rfl) ?_
        refine WL.nil ?_
        refine WX.again (i + 1) ?_ ?_ (.cons rfl (.cons rfl (.cons rfl (.cons rfl (.cons rfl (.cons rfl (.cons rfl (.nil))))))))
        · (try dsimp only); omega
        · refine ⟨by omega, ?_, (Mem.sub M49 (.cons _ (.refl _)))⟩
          rw [take_snoc hpi]
          intro t ht
          rcases List.mem_append.1 ht with h | h
          · exact hmt t h
          · obtain rfl : t = p := by simpa using h
            exact hm
      · rw [decide_eq_false hm]
        obtain ⟨rfl, rfl⟩ := hEn (fun h => hm (h p hpm))
        refine WL.ex rfl rfl rfl (Ex.asg rfl) ?_
        refine WL.nil ?_
        refine WX.next (?_)
        refine WC.seq ?_
        refine WC.region ?_
        refine WL.ex rfl rfl rfl (Ex.loadA ty89 rfl (l := evC p) (ev_len hpo) (M30.rdw (i := 0) rfl)) ?_
        refine WL.ac rfl rfl rfl (Ac.call rfl Try.func52 nm52 rfl (eCheck_ok w30 _ hpo)) ?_; rintro v56 w56 ⟨rfl, K56⟩
        have M56 := M30.step K56
        refine WL.ex rfl rfl rfl (Ex.asg rfl) ?_
        refine WL.nil ?_
        refine WX.next (?_)
        refine WC.seq ?_
        refine WC.seq ?_
        refine WC.region ?_
        refine WL.ex rfl rfl rfl (Ex.mv rfl) ?_
        refine WL.ex rfl rfl rfl (Ex.mv rfl) ?_
        refine WL.ex rfl rfl rfl (Ex.eqI rfl rfl) ?_
        first | rw [if_pos hm] | rw [if_neg hm]
        refine WL.ex rfl rfl rfl (Ex.neB Try.underlying4 rfl rfl) ?_
        
        refine WL.ex rfl rfl rfl (Ex.mv rfl) ?_
        refine WL.yes rfl rfl rfl rfl ?_
        refine WL.ex rfl rfl rfl (Ex.mv rfl) ?_
        refine WL.yes rfl rfl rfl rfl ?_
        refine WL.ex rfl rfl rfl (Ex.not rfl) ?_
        refine WL.yes rfl rfl rfl rfl ?_
        refine WL.ex rfl rfl rfl (Ex.mv rfl) ?_
        refine WL.yes rfl rfl rfl rfl ?_
        refine WL.ex rfl rfl rfl (Ex.mv rfl) ?_
        refine WL.yes rfl rfl rfl rfl ?_
        refine WL.ex rfl rfl rfl (Ex.neI rfl rfl) ?_
        
        refine WL.yes rfl rfl rfl rfl ?_
        refine WL.ex rfl rfl rfl (Ex.pickT rfl rfl) ?_
        refine WL.ex rfl rfl rfl (Ex.pickF rfl rfl) ?_
        refine WL.nil ?_
        refine WX.next (?_)
        refine WC.no rfl ?_
        refine WC.skip ?_
        refine WX.next (?_)
        refine WC.seq ?_
        refine WC.seq ?_
        refine WC.region ?_
        refine WL.ex rfl rfl rfl (Ex.mv rfl) ?_
        refine WL.ex rfl rfl rfl (Ex.not rfl) ?_
        refine WL.nil ?_
        refine WX.next (?_)
        refine WC.yes rfl ?_
        refine WC.seq ?_
        refine WC.region ?_
        refine WL.ex rfl rfl rfl (Ex.mv rfl) ?_
        refine WL.ex rfl rfl rfl (Ex.eqI rfl rfl) ?_
        
        refine WL.ex rfl rfl rfl (Ex.mv rfl) ?_
        refine WL.yes rfl rfl rfl rfl ?_
        refine WL.ex rfl rfl rfl (Ex.mv rfl) ?_
        refine WL.yes rfl rfl rfl rfl ?_
        refine WL.ex rfl rfl rfl (Ex.len Try.underlying25 rfl) ?_
        refine WL.yes rfl rfl rfl rfl ?_
        refine WL.ex rfl rfl rfl (Ex.eqI rfl rfl) ?_
        refine WL.ex rfl rfl rfl (Ex.pickT rfl rfl) ?_
        refine WL.ex rfl rfl rfl (Ex.asg rfl) ?_
        refine WL.nil ?_
        refine WX.next (?_)
        refine WC.ret ?_
        refine WX.ret_then (WX.ret_block (WX.ret_then (WX.ret_then (WX.ret_block (WX.ret_then (?_))))))
        refine WX.ret1 rfl rfl ?_
        exact ⟨rfl, M56.keep⟩
    · obtain rfl : i = es.length := by omega
      rw [List.take_length] at hmt
      obtain ⟨rfl, rfl⟩ := hEy hmt
      refine WC.exit ?_
      refine WX.exit_then (WX.exit_then (WX.exit_block (WX.next (?_))))
      refine WC.seq ?_
      refine WC.region ?_
      refine WL.ex rfl rfl rfl (Ex.mv rfl) ?_
      refine WL.ac rfl rfl rfl (Ac.call rfl Try.func54 nm54 rfl (eRead_walk w23 _ _ _ (M23.rdr (i := 1) rfl) (by rw [evsB_len hok]; omega))) ?_; rintro v81 w81 ⟨v81, rfl, N81⟩
      rw [eAll_B hok hmt] at N81 ⊢
      dsimp only at N81
      have M81 := M23.new N81
      obtain ⟨Az, cz, rfl⟩ := own_slice (M81.get (i := 0) rfl)
      refine WL.ex rfl rfl rfl (Ex.mv rfl) ?_
      refine WL.ex rfl rfl rfl (Ex.ext rfl rfl) ?_
      refine WL.ex rfl rfl rfl (Ex.ext rfl rfl) ?_
      refine WL.ex rfl rfl rfl (Ex.asg rfl) ?_
      refine WL.ex rfl rfl rfl (Ex.asg rfl) ?_
      refine WL.nil ?_
      refine WX.next (?_)
      refine WC.seq ?_
      refine WC.region ?_
      refine WL.ex rfl rfl rfl (Ex.mv rfl) ?_
      refine WL.ex rfl rfl rfl (Ex.eqI rfl rfl) ?_
      
      refine WL.ex rfl rfl rfl (Ex.mv rfl) ?_
      refine WL.yes rfl rfl rfl rfl ?_
      refine WL.ex rfl rfl rfl (Ex.mv rfl) ?_
      refine WL.yes rfl rfl rfl rfl ?_
      refine WL.ex rfl rfl rfl (Ex.cvBS Try.underlying25 Try.underlying5 Try.underlying9 rfl (M81.rdr (i := 2) rfl)) ?_
      refine WL.yes rfl rfl rfl rfl ?_
      refine WL.ex rfl rfl rfl (Ex.mv rfl) ?_
      refine WL.yes rfl rfl rfl rfl ?_
      refine WL.ex rfl rfl rfl (Ex.eqS rfl rfl) ?_
      rw [List.take_length, decide_eq_true rfl]
      refine WL.ex rfl rfl rfl (Ex.pickT rfl rfl) ?_
      refine WL.ex rfl rfl rfl (Ex.mv rfl) ?_
      refine WL.yes rfl rfl rfl rfl ?_
      refine WL.ex rfl rfl rfl (Ex.mv rfl) ?_
      refine WL.yes rfl rfl rfl rfl ?_
      refine WL.ex rfl rfl rfl (Ex.eqI rfl rfl) ?_
      
      refine WL.ex rfl rfl rfl (Ex.pickT rfl rfl) ?_
      refine WL.ex rfl rfl rfl (Ex.mv rfl) ?_
      refine WL.yes rfl rfl rfl rfl ?_
      refine WL.ex rfl rfl rfl (Ex.mv rfl) ?_
      refine WL.yes rfl rfl rfl rfl ?_
      refine WL.ex rfl rfl rfl (Ex.mv rfl) ?_
      refine WL.yes rfl rfl rfl rfl ?_
      refine WL.ac rfl rfl rfl (Ac.call rfl Try.func50 nm50 rfl (refs_ok w81 _ _ es (hr.keep M81.keep) (by omega))) ?_; rintro v102 w102 N102
      have M102 := M81.new N102
      obtain ⟨Aq2, cq2, rfl⟩ := own_slice (M102.get (i := 0) rfl)
      refine WL.yes rfl rfl rfl rfl ?_
      refine WL.ac rfl rfl rfl (Ac.call rfl Try.func55 nm55 rfl (same_ok w102 _ _ _ _ _ _ ⟨M102.rdr (i := 1) rfl, hok⟩ ⟨M102.rdr (i := 0) rfl, hok⟩ (by omega) (by omega))) ?_; rintro v103 w103 ⟨rfl, K103⟩
      rw [decide_eq_true rfl]
      have M103 := M102.step K103
      refine WL.ex rfl rfl rfl (Ex.pickT rfl rfl) ?_
      refine WL.ex rfl rfl rfl (Ex.asg rfl) ?_
      refine WL.nil ?_
      refine WX.next (?_)
      refine WC.ret ?_
      refine WX.ret1 rfl rfl ?_
      exact ⟨rfl, M103.keep⟩
  -- UNUSED HINTS ['split:10.6']

end Go.Proofs.Ytpngjgcbdaogmaa
