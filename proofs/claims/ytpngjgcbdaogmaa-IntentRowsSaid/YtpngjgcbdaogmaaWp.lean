/- Walks, written by gen.py off the translation's own print: each says what the Go function comes to. -/
import Derived.Test.YtpngjgcbdaogmaaWo
set_option linter.unusedVariables false
set_option linter.unusedSimpArgs false
namespace Go.Proofs.Ytpngjgcbdaogmaa
open Go.Sx Go.RowKit
attribute [local irreducible] Ac Ex WL WC WX WP Gives

/- sponsion/sponsionlaw07.IntentRows -/
theorem intentRows_walk (w : World) (A : Option Addr) (c : Nat) (ts : List Itt) (hr : RdT w A ts) :
    Gives Try.prog 7 #[.slice A ts.length c] w fun u w1 => u = .bool true ∧ Keep nof w w1 := by
  have M0 := (Mem.start w nof).free (r := row (.slice none 0 0) 5 1 ([] : List UInt8).length (bytesV [])) (row_nil _ _ _) rfl
  refine Gives.enter (n := 97) Try.func7 rfl Try.ntmps7 rfl (env := [(0, .slice A ts.length c)]) rfl ?_
  refine WC.seq ?_
  refine WC.region ?_
  refine WL.ex rfl rfl rfl (Ex.asg rfl) ?_
  refine WL.nil ?_
  refine WX.next (?_)
  refine WC.seq ?_
  refine WC.seq ?_
  refine WC.region ?_
  refine WL.ac rfl rfl rfl (Ac.call rfl Try.func41 nm41 rfl (lives07_ok w)) ?_; rintro v2 w2 ⟨rfl, K2⟩
  have M2 := M0.step K2
  refine WL.ex rfl rfl rfl (Ex.not rfl) ?_
  refine WL.ex rfl rfl rfl (Ex.mv rfl) ?_
  refine WL.yes rfl rfl rfl rfl ?_
  refine WL.ex rfl rfl rfl (Ex.mv rfl) ?_
  refine WL.yes rfl rfl rfl rfl ?_
  refine WL.ex rfl rfl rfl (Ex.len Try.underlying70 rfl) ?_
  refine WL.yes rfl rfl rfl rfl ?_
  refine WL.ex rfl rfl rfl (Ex.gtr rfl rfl) ?_
  refine WL.ex rfl rfl rfl (Ex.pickF rfl rfl) ?_
  refine WL.nil ?_
  refine WX.next (?_)
  refine WC.cond_dec rfl (fun hc18 => ?_) (fun hc18 => ?_)
  · skip
    refine WC.seq ?_
    refine WC.region ?_
    refine WL.ac rfl rfl rfl (Ac.call rfl Try.func41 nm41 rfl (lives07_ok w2)) ?_; rintro v9 w9 ⟨rfl, K9⟩
    have M9 := M2.step K9
    refine WL.ex rfl rfl rfl (Ex.asg rfl) ?_
    refine WL.nil ?_
    refine WX.next (?_)
    refine WC.ret ?_
    refine WX.ret_then (?_)
    refine WX.ret1 rfl rfl ?_
    exact ⟨rfl, M9.keep⟩
  · have hn : ts.length ≤ 20 := by omega
    refine WC.skip ?_
    refine WX.next (?_)
    refine WC.seq ?_
    refine WC.region ?_
    refine WL.ex rfl rfl rfl (Ex.bld bd32 (parts := []) rfl rfl rfl rfl) ?_
    refine WL.ac rfl rfl rfl (Ac.box M2 rfl rfl) ?_; rintro v12 w12 ⟨g, rfl, hg12, K12, M12⟩
    have M12 := M12.close1 (fun v => [v])
    refine WL.ex rfl rfl rfl (Ex.asg rfl) ?_
    refine WL.nil ?_
    refine WX.next (?_)
    refine WC.seq ?_
    refine WC.seq ?_
    refine WC.region ?_
    refine WL.ex rfl rfl rfl (Ex.mv rfl) ?_
    refine WL.ex rfl rfl rfl (Ex.len Try.underlying70 rfl) ?_
    refine WL.ex rfl rfl rfl (Ex.mv rfl) ?_
    refine WL.nil ?_
    refine WX.next (?_)
    refine WC.block ?_
    refine WC.loop (σ := Nat) (fun i => [(22, .slice A ts.length c), (23, .int .i64 (ts.length : Int)), (24, .int .i64 (i : Int)), (0, .slice A ts.length c), (3, .pointer (some ⟨g, 0, none⟩))]) (fun i wr => i ≤ ts.length ∧ ∃ v L, L = (ts.take i).flatMap ittB ∧ Mem w wr nof [wrR g v L]) (fun i => ts.length - i) (0) ?_ (.cons rfl (.cons rfl (.cons rfl (.cons rfl (.cons rfl (.nil)))))) ?_
    · exact ⟨by omega, _, _, rfl, M12⟩
    rintro i w17 ⟨hi, v, L, hL, M17⟩
    refine WC.seq ?_
    refine WC.region ?_
    refine WL.ex rfl rfl rfl (Ex.lss rfl rfl) ?_
    refine WL.nil ?_
    refine WX.next (?_)
    refine WC.seq ?_
    refine WC.cond_dec rfl (fun hc25 => ?_) (fun hc25 => ?_)
    · obtain ⟨p, hpi⟩ : ∃ p, ts[i]? = some p := ⟨_, List.getElem?_eq_getElem (by omega)⟩
      have hpm : p ∈ ts := List.mem_of_getElem? hpi
      have hpo := hr.ok p hpm
      obtain ⟨b0, o0, hA⟩ := hr.plain hpi
      subst hA
      have hbl : L.length ≤ 38 * 20 := by rw [hL, itts_len]; simp; omega
      refine WC.skip ?_
      refine WX.next (?_)
      refine WC.seq ?_
      refine WC.block ?_
      refine WC.seq ?_
      refine WC.region ?_
      refine WL.ex rfl rfl rfl (Ex.ia Try.underlying70 sz72 rfl rfl ⟨by omega, by omega⟩) ?_
      refine WL.ex rfl rfl rfl (Ex.loadA ty72 rfl (l := ittC p) (itt_len hpo) (Rd.flat (hr.keep M17.keep).row (i := (i : Int).toNat) (fun t ht => itt_len (hr.ok t ht)) (by simpa using hpi))) ?_
      refine WL.ac rfl rfl rfl (Ac.alloc M17 (l := ittC itt0) (by kernel_rfl)) ?_; rintro v21 w21 ⟨gi, rfl, hg21, K21, M21⟩
      refine WL.ac0 rfl rfl (Ac.stA M21 ty72 rfl rfl (vs := ittC p) rfl (itt_len hpo) itt_one (i := 0) rfl (by rw [itt_len hpo, itt_len itt0_ok]; decide)) ?_; rintro v22 w22 ⟨K22, M22⟩
      try dsimp only [List.set] at M22
      rw [splice_all _ _ (by rw [itt_len hpo, itt_len itt0_ok])] at M22
      refine WL.nil ?_
      refine WX.next (?_)
      refine WC.region ?_
      refine WL.ex rfl rfl rfl (Ex.mv rfl) ?_
      refine WL.ex rfl rfl rfl (Ex.loadA ty72 rfl (l := ittC p) (itt_len hpo) (M22.rdw (i := 0) rfl)) ?_
      refine WL.ac rfl rfl rfl (Ac.call rfl Try.func42 nm42 rfl (iPut_ok w22 _ _ _ _ (M22.get (i := 1) rfl) hpo (by omega))) ?_; rintro v25 w25 ⟨v25, T25⟩
      have M25 := M22.turned (i := 1) rfl T25
      try dsimp only [List.set] at M25
      refine WL.nil ?_
      refine WX.normal_block (WX.next (?_))
      refine WC.region ?_
      refine WL.ex rfl rfl rfl (Ex.add rfl rfl (i64w _ (by omega) (by omega))) ?_
      refine WL.ex rfl rfl rfl (Ex.mv rfl) ?_
      refine WL.nil ?_
      refine WX.again (i + 1) ?_ ?_ (.cons rfl (.cons rfl (.cons rfl (.cons rfl (.cons rfl (.nil))))))
      · (try dsimp only); omega
      · exact ⟨by omega, _, L ++ ittB p, by rw [itts_snoc hpi, ← hL], M25.drop1⟩
    · have hbl : L.length ≤ 38 * 20 := by rw [hL, itts_len]; simp; omega
      obtain rfl : i = ts.length := by omega
      rw [List.take_of_length_le (Nat.le_refl _)] at hL
      refine WC.exit ?_
      refine WX.exit_then (WX.exit_then (WX.exit_block (WX.next (?_))))
      refine WC.seq ?_
      refine WC.region ?_
      refine WL.ex rfl rfl rfl (Ex.mv rfl) ?_
      refine WL.ac rfl rfl rfl (Ac.call rfl Try.func26 nm26 rfl (wBytes_ok w17 _ _ _ (M17.get (i := 0) rfl) (by first | (simp; done) | (simp; omega) | omega))) ?_; rintro v29 w29 N29
      have M29 := M17.new N29
      obtain ⟨A29, c29, rfl⟩ := own_slice (M29.get (i := 0) rfl)
      refine WL.ac rfl rfl rfl (Ac.call rfl Try.func27 nm27 rfl (of_ok w29 _ _ _ (M29.rdr (i := 0) rfl) (by omega))) ?_; rintro v30 w30 ⟨gr, D, rfl, N30⟩
      have M30 := M29.new N30
      refine WL.ex rfl rfl rfl (Ex.asg rfl) ?_
      refine WL.nil ?_
      refine WX.next (?_)
      refine WC.seq ?_
      refine WC.region ?_
      refine WL.ex rfl rfl rfl (Ex.asg rfl) ?_
      refine WL.nil ?_
      refine WX.next (?_)
      refine WC.seq ?_
      refine WC.seq ?_
      refine WC.region ?_
      refine WL.ex rfl rfl rfl (Ex.mv rfl) ?_
      refine WL.ex rfl rfl rfl (Ex.len Try.underlying70 rfl) ?_
      refine WL.ex rfl rfl rfl (Ex.mv rfl) ?_
      refine WL.nil ?_
      refine WX.next (?_)
      refine WC.block ?_
      refine WC.loop (σ := Nat × Bool) (fun s => [(35, .slice A ts.length c), (36, .int .i64 (ts.length : Int)), (37, .int .i64 (s.1 : Int)), (6, .pointer (some ⟨gr, 0, none⟩)), (7, .bool s.2)]) (fun s wr => s.1 ≤ ts.length ∧ ∃ l e, (s.2 = true → l = [] ∧ e = 6) ∧ (s.2 = false → l = (ts.drop s.1).flatMap ittB ∧ e = 0) ∧ Mem w wr nof [rdR gr D (l, e)]) (fun s => ts.length - s.1) (((0, false) : Nat × Bool)) ?_ (.cons rfl (.cons rfl (.cons rfl (.cons rfl (.cons rfl (.nil)))))) ?_
      · exact ⟨by simp, _, _, (fun h => by cases h), (fun _ => ⟨by rw [hL, List.drop_zero], rfl⟩), Mem.sub M30 (.cons_cons _ (List.nil_sublist _))⟩
      rintro ⟨i, t⟩ w36 ⟨hi, l, e, ht1, ht2, M36⟩
      dsimp only at hi ht1 ht2
      refine WC.sub (env' := [(35, .slice A ts.length c), (36, .int .i64 (ts.length : Int)), (37, .int .i64 (i : Int)), (6, .pointer (some ⟨gr, 0, none⟩)), (7, .bool t)]) (.cons rfl (.cons rfl (.cons rfl (.cons rfl (.cons rfl (.nil)))))) ?_
      refine WC.seq ?_
      refine WC.region ?_
      refine WL.ex rfl rfl rfl (Ex.lss rfl rfl) ?_
      refine WL.nil ?_
      refine WX.next (?_)
      refine WC.seq ?_
      refine WC.cond_dec rfl (fun hc38 => ?_) (fun hc38 => ?_)
      · obtain ⟨p, hpi⟩ : ∃ p, ts[i]? = some p := ⟨_, List.getElem?_eq_getElem (by omega)⟩
        have hpm : p ∈ ts := List.mem_of_getElem? hpi
        have hpo := hr.ok p hpm
        obtain ⟨b0, o0, hA⟩ := hr.plain hpi
        subst hA
        refine WC.skip ?_
        refine WX.next (?_)
        refine WC.seq ?_
        refine WC.block ?_
        refine WC.seq ?_
        refine WC.region ?_
        refine WL.ex rfl rfl rfl (Ex.ia Try.underlying70 sz72 rfl rfl ⟨by omega, by omega⟩) ?_
        refine WL.ex rfl rfl rfl (Ex.loadA ty72 rfl (l := ittC p) (itt_len hpo) (Rd.flat (hr.keep M36.keep).row (i := (i : Int).toNat) (fun t ht => itt_len (hr.ok t ht)) (by simpa using hpi))) ?_
        refine WL.ac rfl rfl rfl (Ac.alloc M36 (l := ittC itt0) (by kernel_rfl)) ?_; rintro v40 w40 ⟨gj, rfl, hg40, K40, M40⟩
        refine WL.ac0 rfl rfl (Ac.stA M40 ty72 rfl rfl (vs := ittC p) rfl (itt_len hpo) itt_one (i := 0) rfl (by rw [itt_len hpo, itt_len itt0_ok]; decide)) ?_; rintro v41 w41 ⟨K41, M41⟩
        try dsimp only [List.set] at M41
        rw [splice_all _ _ (by rw [itt_len hpo, itt_len itt0_ok])] at M41
        refine WL.nil ?_
        refine WX.next (?_)
        refine WC.seq ?_
        refine WC.region ?_
        refine WL.ex rfl rfl rfl (Ex.mv rfl) ?_
        refine WL.ex rfl rfl rfl (Ex.mv rfl) ?_
        rcases Bool.eq_false_or_eq_true t with hq | hq <;> subst hq
        · obtain ⟨rfl, rfl⟩ := ht1 rfl
          have hget := iGet_6
          refine WL.no rfl rfl rfl rfl rfl rfl ?_
          refine WL.no rfl rfl rfl rfl rfl rfl ?_
          refine WL.no rfl rfl rfl rfl rfl rfl ?_
          refine WL.ex rfl rfl rfl (Ex.pickT rfl rfl) ?_
          refine WL.ex rfl rfl rfl (Ex.asg rfl) ?_
          refine WL.nil ?_
          refine WX.next (?_)
          refine WC.seq ?_
          refine WC.region ?_
          refine WL.ex rfl rfl rfl (Ex.mv rfl) ?_
          refine WL.ac rfl rfl rfl (Ac.call rfl Try.func44 nm44 rfl (iGet_walk w41 _ _ _ _ (M41.get (i := 1) rfl) (fun h => by first | exact absurd rfl h | rfl))) ?_; rintro v47 w47 ⟨rfl, T47⟩
          rw [hget] at T47 ⊢
          have M47 := M41.turned (i := 1) rfl T47
          try dsimp only [List.set] at M47
          refine WL.ac rfl rfl rfl (Ac.alloc M47 (l := ittC itt0) (by kernel_rfl)) ?_; rintro v48 w48 ⟨gy, rfl, hg48, K48, M48⟩
          refine WL.ac0 rfl rfl (Ac.stA M48 ty72 rfl rfl (vs := ittC itt0) rfl rfl itt_one (i := 0) rfl (by rw [itt_len itt0_ok]; decide)) ?_; rintro v49 w49 ⟨K49, M49⟩
          try dsimp only [List.set] at M49
          rw [splice_all _ _ (by first | rfl | rw [itt_len hpo, itt_len itt0_ok])] at M49
          refine WL.nil ?_
          refine WX.next (?_)
          refine WC.seq ?_
          refine WC.region ?_
          refine WL.ex rfl rfl rfl (Ex.mv rfl) ?_
          refine WL.ex rfl rfl rfl (Ex.mv rfl) ?_
          refine WL.yes rfl rfl rfl rfl ?_
          refine WL.ex rfl rfl rfl (Ex.loadA ty72 rfl (l := ittC itt0) rfl (M49.rdw (i := 0) rfl)) ?_
          refine WL.yes rfl rfl rfl rfl ?_
          refine WL.ex rfl rfl rfl (Ex.bld bd72 (parts := []) (l := ittC itt0) rfl rfl rfl rfl) ?_
          refine WL.yes rfl rfl rfl rfl ?_
          refine WL.ex rfl rfl rfl (Ex.neA rfl rfl (eqItt w itt0_ok itt0_ok)) ?_
          rw [decide_eq_true rfl]
          refine WL.yes rfl rfl rfl rfl ?_
          refine WL.ex rfl rfl rfl (Ex.mv rfl) ?_
          refine WL.yes rfl rfl rfl rfl ?_
          refine WL.ex rfl rfl rfl (Ex.mv rfl) ?_
          refine WL.yes rfl rfl rfl rfl ?_
          refine WL.ac rfl rfl rfl (Ac.call rfl Try.func39 nm39 rfl (rErr_ok w49 _ _ _ _ (M49.get (i := 2) rfl))) ?_; rintro v57 w57 ⟨rfl, rfl⟩
          refine WL.yes rfl rfl rfl rfl ?_
          refine WL.ex rfl rfl rfl (Ex.neI rfl rfl) ?_
          
          refine WL.yes rfl rfl rfl rfl ?_
          refine WL.ex rfl rfl rfl (Ex.pickF rfl rfl) ?_
          refine WL.ex rfl rfl rfl (Ex.pickT rfl rfl) ?_
          refine WL.ex rfl rfl rfl (Ex.mv rfl) ?_
          refine WL.yes rfl rfl rfl rfl ?_
          refine WL.ex rfl rfl rfl (Ex.mv rfl) ?_
          refine WL.yes rfl rfl rfl rfl ?_
          refine WL.ex rfl rfl rfl (Ex.not rfl) ?_
          refine WL.yes rfl rfl rfl rfl ?_
          refine WL.ex rfl rfl rfl (Ex.mv rfl) ?_
          refine WL.no rfl rfl rfl rfl rfl rfl ?_
          refine WL.no rfl rfl rfl rfl rfl rfl ?_
          refine WL.no rfl rfl rfl rfl rfl rfl ?_
          refine WL.no rfl rfl rfl rfl rfl rfl ?_
          refine WL.no rfl rfl rfl rfl rfl rfl ?_
          refine WL.no rfl rfl rfl rfl rfl rfl ?_
          refine WL.no rfl rfl rfl rfl rfl rfl ?_
          refine WL.no rfl rfl rfl rfl rfl rfl ?_
          refine WL.yes rfl rfl rfl rfl ?_
          refine WL.ex rfl rfl rfl (Ex.pickF rfl rfl) ?_
          refine WL.ex rfl rfl rfl (Ex.pickF rfl rfl) ?_
          refine WL.nil ?_
          refine WX.next (?_)
          refine WC.no rfl ?_
          refine WC.skip ?_
          refine WX.normal_block (WX.next (?_))
          refine WC.region ?_
          refine WL.ex rfl rfl rfl (Ex.add rfl rfl (i64w _ (by omega) (by omega))) ?_
          refine WL.ex rfl rfl rfl (Ex.mv rfl) ?_
          refine WL.nil ?_
          refine WX.again (((i + 1, true) : Nat × Bool)) ?_ ?_ (.cons rfl (.cons rfl (.cons rfl (.cons rfl (.cons rfl (.nil))))))
          · (try dsimp only); omega
          · first
              | exact ⟨by dsimp only; omega, _, _, (fun _ => ⟨rfl, rfl⟩), (fun h => by cases h), M49.sub (.cons _ (.cons _ (.refl _)))⟩
              | exact ⟨by dsimp only; omega, _, _, (fun h => by cases h), (fun _ => ⟨rfl, rfl⟩), M49.sub (.cons _ (.cons _ (.refl _)))⟩
        · obtain ⟨hl0, rfl⟩ := ht2 rfl
          rw [itts_cons hpi] at hl0
          subst hl0
          refine WL.yes rfl rfl rfl rfl ?_
          refine WL.ex rfl rfl rfl (Ex.loadA ty72 rfl (l := ittC p) (itt_len hpo) (M41.rdw (i := 0) rfl)) ?_
          refine WL.yes rfl rfl rfl rfl ?_
          refine WL.ac rfl rfl rfl (Ac.call rfl Try.func43 nm43 rfl (may7_ok w41 _ ‹_›)) ?_; rintro v70 w70 ⟨rfl, K70⟩
          have M70 := M41.step K70
          by_cases hm : mayI p
          · rw [decide_eq_true hm]
            have hget : iGet (ittB p ++ (ts.drop (i + 1)).flatMap ittB, 0) = (p, ((ts.drop (i + 1)).flatMap ittB, 0)) := by rw [iGet_B hpo, if_pos hm]
            refine WL.yes rfl rfl rfl rfl ?_
            refine WL.ex rfl rfl rfl (Ex.not rfl) ?_
            refine WL.ex rfl rfl rfl (Ex.pickF rfl rfl) ?_
            refine WL.ex rfl rfl rfl (Ex.asg rfl) ?_
            refine WL.nil ?_
            refine WX.next (?_)
            refine WC.seq ?_
            refine WC.region ?_
            refine WL.ex rfl rfl rfl (Ex.mv rfl) ?_
            refine WL.ac rfl rfl rfl (Ac.call rfl Try.func44 nm44 rfl (iGet_walk w70 _ _ _ _ (M70.get (i := 1) rfl) (fun h => by first | exact absurd rfl h | rfl))) ?_; rintro v75 w75 ⟨rfl, T75⟩
            rw [hget] at T75 ⊢
            have M75 := M70.turned (i := 1) rfl T75
            try dsimp only [List.set] at M75
            refine WL.ac rfl rfl rfl (Ac.alloc M75 (l := ittC itt0) (by kernel_rfl)) ?_; rintro v76 w76 ⟨gy, rfl, hg76, K76, M76⟩
            refine WL.ac0 rfl rfl (Ac.stA M76 ty72 rfl rfl (vs := ittC p) rfl (itt_len hpo) itt_one (i := 0) rfl (by rw [itt_len hpo, itt_len itt0_ok]; decide)) ?_; rintro v77 w77 ⟨K77, M77⟩
            try dsimp only [List.set] at M77
            rw [splice_all _ _ (by first | rfl | rw [itt_len hpo, itt_len itt0_ok])] at M77
            refine WL.nil ?_
            refine WX.next (?_)
            refine WC.seq ?_
            refine WC.region ?_
            refine WL.ex rfl rfl rfl (Ex.mv rfl) ?_
            refine WL.ex rfl rfl rfl (Ex.mv rfl) ?_
            refine WL.no rfl rfl rfl rfl rfl rfl ?_
            refine WL.no rfl rfl rfl rfl rfl rfl ?_
            refine WL.no rfl rfl rfl rfl rfl rfl ?_
            refine WL.no rfl rfl rfl rfl rfl rfl ?_
            refine WL.no rfl rfl rfl rfl rfl rfl ?_
            refine WL.no rfl rfl rfl rfl rfl rfl ?_
            refine WL.no rfl rfl rfl rfl rfl rfl ?_
            refine WL.no rfl rfl rfl rfl rfl rfl ?_
            refine WL.ex rfl rfl rfl (Ex.pickF rfl rfl) ?_
            refine WL.ex rfl rfl rfl (Ex.mv rfl) ?_
            refine WL.yes rfl rfl rfl rfl ?_
            refine WL.ex rfl rfl rfl (Ex.mv rfl) ?_
            refine WL.yes rfl rfl rfl rfl ?_
            refine WL.ex rfl rfl rfl (Ex.not rfl) ?_
            refine WL.yes rfl rfl rfl rfl ?_
            refine WL.ex rfl rfl rfl (Ex.mv rfl) ?_
            refine WL.yes rfl rfl rfl rfl ?_
            refine WL.ex rfl rfl rfl (Ex.loadA ty72 rfl (l := ittC p) (itt_len hpo) (M77.rdw (i := 0) rfl)) ?_
            refine WL.yes rfl rfl rfl rfl ?_
            refine WL.ex rfl rfl rfl (Ex.loadA ty72 rfl (l := ittC p) (itt_len hpo) (M77.rdw (i := 1) rfl)) ?_
            refine WL.yes rfl rfl rfl rfl ?_
            refine WL.ex rfl rfl rfl (Ex.neA rfl rfl (eqItt w hpo hpo)) ?_
            rw [decide_eq_true rfl]
            refine WL.yes rfl rfl rfl rfl ?_
            refine WL.ex rfl rfl rfl (Ex.mv rfl) ?_
            refine WL.yes rfl rfl rfl rfl ?_
            refine WL.ex rfl rfl rfl (Ex.mv rfl) ?_
            refine WL.yes rfl rfl rfl rfl ?_
            refine WL.ac rfl rfl rfl (Ac.call rfl Try.func39 nm39 rfl (rErr_ok w77 _ _ _ _ (M77.get (i := 2) rfl))) ?_; rintro v90 w90 ⟨rfl, rfl⟩
            refine WL.yes rfl rfl rfl rfl ?_
            refine WL.ex rfl rfl rfl (Ex.neI rfl rfl) ?_
            
            refine WL.yes rfl rfl rfl rfl ?_
            refine WL.ex rfl rfl rfl (Ex.pickF rfl rfl) ?_
            refine WL.yes rfl rfl rfl rfl ?_
            refine WL.ex rfl rfl rfl (Ex.pickT rfl rfl) ?_
            refine WL.ex rfl rfl rfl (Ex.pickF rfl rfl) ?_
            refine WL.nil ?_
            refine WX.next (?_)
            refine WC.no rfl ?_
            refine WC.skip ?_
            refine WX.normal_block (WX.next (?_))
            refine WC.region ?_
            refine WL.ex rfl rfl rfl (Ex.add rfl rfl (i64w _ (by omega) (by omega))) ?_
            refine WL.ex rfl rfl rfl (Ex.mv rfl) ?_
            refine WL.nil ?_
            refine WX.again (((i + 1, false) : Nat × Bool)) ?_ ?_ (.cons rfl (.cons rfl (.cons rfl (.cons rfl (.cons rfl (.nil))))))
            · (try dsimp only); omega
            · first
                | exact ⟨by dsimp only; omega, _, _, (fun _ => ⟨rfl, rfl⟩), (fun h => by cases h), M77.sub (.cons _ (.cons _ (.refl _)))⟩
                | exact ⟨by dsimp only; omega, _, _, (fun h => by cases h), (fun _ => ⟨rfl, rfl⟩), M77.sub (.cons _ (.cons _ (.refl _)))⟩
          · rw [decide_eq_false hm]
            have hget : iGet (ittB p ++ (ts.drop (i + 1)).flatMap ittB, 0) = (itt0, ([], 6)) := by rw [iGet_B hpo, if_neg hm]
            refine WL.yes rfl rfl rfl rfl ?_
            refine WL.ex rfl rfl rfl (Ex.not rfl) ?_
            refine WL.ex rfl rfl rfl (Ex.pickF rfl rfl) ?_
            refine WL.ex rfl rfl rfl (Ex.asg rfl) ?_
            refine WL.nil ?_
            refine WX.next (?_)
            refine WC.seq ?_
            refine WC.region ?_
            refine WL.ex rfl rfl rfl (Ex.mv rfl) ?_
            refine WL.ac rfl rfl rfl (Ac.call rfl Try.func44 nm44 rfl (iGet_walk w70 _ _ _ _ (M70.get (i := 1) rfl) (fun h => by first | exact absurd rfl h | rfl))) ?_; rintro v101 w101 ⟨rfl, T101⟩
            rw [hget] at T101 ⊢
            have M101 := M70.turned (i := 1) rfl T101
            try dsimp only [List.set] at M101
            refine WL.ac rfl rfl rfl (Ac.alloc M101 (l := ittC itt0) (by kernel_rfl)) ?_; rintro v102 w102 ⟨gy, rfl, hg102, K102, M102⟩
            refine WL.ac0 rfl rfl (Ac.stA M102 ty72 rfl rfl (vs := ittC itt0) rfl rfl itt_one (i := 0) rfl (by rw [itt_len itt0_ok]; decide)) ?_; rintro v103 w103 ⟨K103, M103⟩
            try dsimp only [List.set] at M103
            rw [splice_all _ _ (by first | rfl | rw [itt_len hpo, itt_len itt0_ok])] at M103
            refine WL.nil ?_
            refine WX.next (?_)
            refine WC.seq ?_
            refine WC.region ?_
            refine WL.ex rfl rfl rfl (Ex.mv rfl) ?_
            refine WL.ex rfl rfl rfl (Ex.mv rfl) ?_
            refine WL.yes rfl rfl rfl rfl ?_
            refine WL.ex rfl rfl rfl (Ex.loadA ty72 rfl (l := ittC itt0) rfl (M103.rdw (i := 0) rfl)) ?_
            refine WL.yes rfl rfl rfl rfl ?_
            refine WL.ex rfl rfl rfl (Ex.bld bd72 (parts := []) (l := ittC itt0) rfl rfl rfl rfl) ?_
            refine WL.yes rfl rfl rfl rfl ?_
            refine WL.ex rfl rfl rfl (Ex.neA rfl rfl (eqItt w itt0_ok itt0_ok)) ?_
            rw [decide_eq_true rfl]
            refine WL.yes rfl rfl rfl rfl ?_
            refine WL.ex rfl rfl rfl (Ex.mv rfl) ?_
            refine WL.yes rfl rfl rfl rfl ?_
            refine WL.ex rfl rfl rfl (Ex.mv rfl) ?_
            refine WL.yes rfl rfl rfl rfl ?_
            refine WL.ac rfl rfl rfl (Ac.call rfl Try.func39 nm39 rfl (rErr_ok w103 _ _ _ _ (M103.get (i := 2) rfl))) ?_; rintro v111 w111 ⟨rfl, rfl⟩
            refine WL.yes rfl rfl rfl rfl ?_
            refine WL.ex rfl rfl rfl (Ex.neI rfl rfl) ?_
            
            refine WL.yes rfl rfl rfl rfl ?_
            refine WL.ex rfl rfl rfl (Ex.pickF rfl rfl) ?_
            refine WL.ex rfl rfl rfl (Ex.pickT rfl rfl) ?_
            refine WL.ex rfl rfl rfl (Ex.mv rfl) ?_
            refine WL.yes rfl rfl rfl rfl ?_
            refine WL.ex rfl rfl rfl (Ex.mv rfl) ?_
            refine WL.yes rfl rfl rfl rfl ?_
            refine WL.ex rfl rfl rfl (Ex.not rfl) ?_
            refine WL.yes rfl rfl rfl rfl ?_
            refine WL.ex rfl rfl rfl (Ex.mv rfl) ?_
            refine WL.no rfl rfl rfl rfl rfl rfl ?_
            refine WL.no rfl rfl rfl rfl rfl rfl ?_
            refine WL.no rfl rfl rfl rfl rfl rfl ?_
            refine WL.no rfl rfl rfl rfl rfl rfl ?_
            refine WL.no rfl rfl rfl rfl rfl rfl ?_
            refine WL.no rfl rfl rfl rfl rfl rfl ?_
            refine WL.no rfl rfl rfl rfl rfl rfl ?_
            refine WL.no rfl rfl rfl rfl rfl rfl ?_
            refine WL.yes rfl rfl rfl rfl ?_
            refine WL.ex rfl rfl rfl (Ex.pickF rfl rfl) ?_
            refine WL.ex rfl rfl rfl (Ex.pickF rfl rfl) ?_
            refine WL.nil ?_
            refine WX.next (?_)
            refine WC.no rfl ?_
            refine WC.skip ?_
            refine WX.normal_block (WX.next (?_))
            refine WC.region ?_
            refine WL.ex rfl rfl rfl (Ex.add rfl rfl (i64w _ (by omega) (by omega))) ?_
            refine WL.ex rfl rfl rfl (Ex.mv rfl) ?_
            refine WL.nil ?_
            refine WX.again (((i + 1, true) : Nat × Bool)) ?_ ?_ (.cons rfl (.cons rfl (.cons rfl (.cons rfl (.cons rfl (.nil))))))
            · (try dsimp only); omega
            · first
                | exact ⟨by dsimp only; omega, _, _, (fun _ => ⟨rfl, rfl⟩), (fun h => by cases h), M103.sub (.cons _ (.cons _ (.refl _)))⟩
                | exact ⟨by dsimp only; omega, _, _, (fun h => by cases h), (fun _ => ⟨rfl, rfl⟩), M103.sub (.cons _ (.cons _ (.refl _)))⟩
      · obtain rfl : i = ts.length := by omega
        refine WC.exit ?_
        refine WX.exit_then (WX.exit_then (WX.exit_block (WX.next (?_))))
        refine WC.seq ?_
        refine WC.region ?_
        refine WL.ex rfl rfl rfl (Ex.mv rfl) ?_
        rcases Bool.eq_false_or_eq_true t with hq | hq <;> subst hq
        · obtain ⟨rfl, rfl⟩ := ht1 rfl
          have hget := iGet_6
          refine WL.ac rfl rfl rfl (Ac.call rfl Try.func44 nm44 rfl (iGet_walk w36 _ _ _ _ (M36.get (i := 0) rfl) (fun h => by first | exact absurd rfl h | rfl))) ?_; rintro v124 w124 ⟨rfl, T124⟩
          first | rw [hget] at T124 ⊢ | (rw [show iGet (List.flatMap ittB [], 0) = _ from hget] at T124 ⊢)
          have M124 := M36.turned (i := 0) rfl T124
          try dsimp only [List.set] at M124
          refine WL.ac rfl rfl rfl (Ac.alloc M124 (l := ittC itt0) (by kernel_rfl)) ?_; rintro v125 w125 ⟨gz, rfl, hg125, K125, M125⟩
          refine WL.ac0 rfl rfl (Ac.stA M125 ty72 rfl rfl (vs := ittC itt0) rfl rfl itt_one (i := 0) rfl (Nat.le_refl _)) ?_; rintro v126 w126 ⟨K126, M126⟩
          try dsimp only [List.set] at M126
          rw [splice_all _ _ rfl] at M126
          refine WL.nil ?_
          refine WX.next (?_)
          refine WC.seq ?_
          refine WC.region ?_
          refine WL.ex rfl rfl rfl (Ex.loadA ty72 rfl (l := ittC itt0) rfl (M126.rdw (i := 0) rfl)) ?_
          refine WL.ex rfl rfl rfl (Ex.bld bd72 (parts := []) (l := ittC itt0) rfl rfl rfl rfl) ?_
          refine WL.ex rfl rfl rfl (Ex.eqA rfl rfl (eqItt w itt0_ok itt0_ok)) ?_
          rw [decide_eq_true rfl]
          refine WL.ex rfl rfl rfl (Ex.mv rfl) ?_
          refine WL.yes rfl rfl rfl rfl ?_
          refine WL.ex rfl rfl rfl (Ex.mv rfl) ?_
          
          refine WL.yes rfl rfl rfl rfl ?_
          refine WL.ex rfl rfl rfl (Ex.mv rfl) ?_
          refine WL.yes rfl rfl rfl rfl ?_
          refine WL.ex rfl rfl rfl (Ex.mv rfl) ?_
          refine WL.yes rfl rfl rfl rfl ?_
          refine WL.ac rfl rfl rfl (Ac.call rfl Try.func39 nm39 rfl (rErr_ok w126 _ _ _ _ (M126.get (i := 1) rfl))) ?_; rintro v134 w134 ⟨rfl, rfl⟩
          refine WL.yes rfl rfl rfl rfl ?_
          refine WL.ex rfl rfl rfl (Ex.eqI rfl rfl) ?_
          
          refine WL.yes rfl rfl rfl rfl ?_
          refine WL.ex rfl rfl rfl (Ex.pickT rfl rfl) ?_
          refine WL.yes rfl rfl rfl rfl ?_
          refine WL.ex rfl rfl rfl (Ex.mv rfl) ?_
          refine WL.no rfl rfl rfl rfl rfl rfl ?_
          refine WL.no rfl rfl rfl rfl rfl rfl ?_
          refine WL.no rfl rfl rfl rfl rfl rfl ?_
          refine WL.no rfl rfl rfl rfl rfl rfl ?_
          refine WL.no rfl rfl rfl rfl rfl rfl ?_
          refine WL.no rfl rfl rfl rfl rfl rfl ?_
          refine WL.no rfl rfl rfl rfl rfl rfl ?_
          refine WL.yes rfl rfl rfl rfl ?_
          refine WL.ex rfl rfl rfl (Ex.pickT rfl rfl) ?_
          refine WL.ex rfl rfl rfl (Ex.pickT rfl rfl) ?_
          refine WL.ex rfl rfl rfl (Ex.asg rfl) ?_
          refine WL.nil ?_
          refine WX.next (?_)
          refine WC.ret ?_
          refine WX.ret1 rfl rfl ?_
          exact ⟨rfl, M126.keep⟩
        · obtain ⟨hl0, rfl⟩ := ht2 rfl
          rw [List.drop_length] at hl0
          subst hl0
          have hget := iGet_nil
          refine WL.ac rfl rfl rfl (Ac.call rfl Try.func44 nm44 rfl (iGet_walk w36 _ _ _ _ (M36.get (i := 0) rfl) (fun h => by first | exact absurd rfl h | rfl))) ?_; rintro v141 w141 ⟨rfl, T141⟩
          first | rw [hget] at T141 ⊢ | (rw [show iGet (List.flatMap ittB [], 0) = _ from hget] at T141 ⊢)
          have M141 := M36.turned (i := 0) rfl T141
          try dsimp only [List.set] at M141
          refine WL.ac rfl rfl rfl (Ac.alloc M141 (l := ittC itt0) (by kernel_rfl)) ?_; rintro v142 w142 ⟨gz, rfl, hg142, K142, M142⟩
          refine WL.ac0 rfl rfl (Ac.stA M142 ty72 rfl rfl (vs := ittC itt0) rfl rfl itt_one (i := 0) rfl (Nat.le_refl _)) ?_; rintro v143 w143 ⟨K143, M143⟩
          try dsimp only [List.set] at M143
          rw [splice_all _ _ rfl] at M143
          refine WL.nil ?_
          refine WX.next (?_)
          refine WC.seq ?_
          refine WC.region ?_
          refine WL.ex rfl rfl rfl (Ex.loadA ty72 rfl (l := ittC itt0) rfl (M143.rdw (i := 0) rfl)) ?_
          refine WL.ex rfl rfl rfl (Ex.bld bd72 (parts := []) (l := ittC itt0) rfl rfl rfl rfl) ?_
          refine WL.ex rfl rfl rfl (Ex.eqA rfl rfl (eqItt w itt0_ok itt0_ok)) ?_
          rw [decide_eq_true rfl]
          refine WL.ex rfl rfl rfl (Ex.mv rfl) ?_
          refine WL.yes rfl rfl rfl rfl ?_
          refine WL.ex rfl rfl rfl (Ex.mv rfl) ?_
          
          refine WL.yes rfl rfl rfl rfl ?_
          refine WL.ex rfl rfl rfl (Ex.mv rfl) ?_
          refine WL.no rfl rfl rfl rfl rfl rfl ?_
          refine WL.no rfl rfl rfl rfl rfl rfl ?_
          refine WL.no rfl rfl rfl rfl rfl rfl ?_
          refine WL.yes rfl rfl rfl rfl ?_
          refine WL.ex rfl rfl rfl (Ex.pickF rfl rfl) ?_
          refine WL.yes rfl rfl rfl rfl ?_
          refine WL.ex rfl rfl rfl (Ex.mv rfl) ?_
          refine WL.yes rfl rfl rfl rfl ?_
          refine WL.ex rfl rfl rfl (Ex.mv rfl) ?_
          
          refine WL.yes rfl rfl rfl rfl ?_
          refine WL.ex rfl rfl rfl (Ex.not rfl) ?_
          refine WL.yes rfl rfl rfl rfl ?_
          refine WL.ex rfl rfl rfl (Ex.mv rfl) ?_
          refine WL.yes rfl rfl rfl rfl ?_
          refine WL.ex rfl rfl rfl (Ex.mv rfl) ?_
          refine WL.yes rfl rfl rfl rfl ?_
          refine WL.ac rfl rfl rfl (Ac.call rfl Try.func39 nm39 rfl (rErr_ok w143 _ _ _ _ (M143.get (i := 1) rfl))) ?_; rintro v156 w156 ⟨rfl, rfl⟩
          refine WL.yes rfl rfl rfl rfl ?_
          refine WL.ex rfl rfl rfl (Ex.eqI rfl rfl) ?_
          
          refine WL.yes rfl rfl rfl rfl ?_
          refine WL.ex rfl rfl rfl (Ex.pickT rfl rfl) ?_
          refine WL.yes rfl rfl rfl rfl ?_
          refine WL.ex rfl rfl rfl (Ex.pickF rfl rfl) ?_
          refine WL.ex rfl rfl rfl (Ex.pickT rfl rfl) ?_
          refine WL.ex rfl rfl rfl (Ex.asg rfl) ?_
          refine WL.nil ?_
          refine WX.next (?_)
          refine WC.ret ?_
          refine WX.ret1 rfl rfl ?_
          exact ⟨rfl, M143.keep⟩

end Go.Proofs.Ytpngjgcbdaogmaa
