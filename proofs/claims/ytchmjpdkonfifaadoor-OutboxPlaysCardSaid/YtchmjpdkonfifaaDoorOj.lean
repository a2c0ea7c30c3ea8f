/- Walks, written by gen.py off the translation's own print: each says what the Go function comes to. -/
import Derived.Test.YtchmjpdkonfifaaDoorOi
set_option linter.unusedVariables false
set_option linter.unusedSimpArgs false
namespace Go.Proofs.YtchmjpdkonfifaaDoor
open Go.Sx Go.RowKit
attribute [local irreducible] Ac Ex WL WC WX WP Gives sha

/- sponsion/sponsionlaw19.OutboxPlays -/
theorem outboxPlays_walk (w : World) (B : Option Addr) (d : Nat) (acts : List Ac9) (tk fr to : Nat) (hr : Rd w B (acts.flatMap ac9C)) (hok : ∀ a ∈ acts, Ac9Ok a) (hfr : fr < 18446744073709551616) (hto : to < 18446744073709551616) (hT : Tabs w) :
    Gives Tryd.prog 4 #[.slice B acts.length d, .int .u8 (tk : Int), .int .u64 (fr : Int), .int .u64 (to : Int)] w fun u w1 => u = .bool true ∧ Keep nof w w1 := by
  have M0 := Mem.start w nof
  refine WI.enterG (n := 141) Tryd.func4 rfl Tryd.ntmps4 rfl (env := [(0, .slice B acts.length d), (1, .int .u8 (tk : Int)), (2, .int .u64 (fr : Int)), (3, .int .u64 (to : Int))]) rfl ?_
  refine WI.seq ?_
  refine WI.region (NO.then_ NO.body) (by kernel_rfl) ?_
  refine WL.ac rfl rfl rfl (Ac.alloc M0 (l := [.bool false]) (by kernel_rfl)) ?_; rintro v1 w1 ⟨gr, rfl, hg1, K1, M1⟩
  refine WL.nil ?_
  refine WI.next (?_)
  refine WI.seq ?_
  refine WI.seq ?_
  refine WI.region (NO.then_ (NO.then_ NO.body)) (by kernel_rfl) ?_
  refine WL.ac rfl rfl rfl (Ac.call rfl Tryd.func10 nm10 rfl (lives19_ok w1 (hT.keep M1.keep))) ?_; rintro v2 w2 ⟨rfl, K2⟩
  have M2 := M1.step K2
  refine WL.ex rfl rfl rfl (Ex.not rfl) ?_
  refine WL.ex rfl rfl rfl (Ex.mv rfl) ?_
  refine WL.yes rfl rfl rfl rfl ?_
  refine WL.ex rfl rfl rfl (Ex.mv rfl) ?_
  refine WL.yes rfl rfl rfl rfl ?_
  refine WL.ex rfl rfl rfl (Ex.len Tryd.underlying22 rfl) ?_
  refine WL.yes rfl rfl rfl rfl ?_
  refine WL.ex rfl rfl rfl (Ex.gtr rfl rfl) ?_
  refine WL.ex rfl rfl rfl (Ex.pickF rfl rfl) ?_
  refine WL.nil ?_
  refine WI.next (?_)
  refine WI.cond_dec rfl (fun hc29 => ?_) (fun hc29 => ?_)
  · skip
    refine WI.seq ?_
    refine WI.region (NO.then_ (NO.then_ NO.body)) (by kernel_rfl) ?_
    refine WL.ac rfl rfl rfl (Ac.call rfl Tryd.func10 nm10 rfl (lives19_ok w2 (hT.keep M2.keep))) ?_; rintro v9 w9 ⟨rfl, K9⟩
    have M9 := M2.step K9
    refine WL.ac0 rfl rfl (Ac.st M9 ty4 rfl rfl rfl (i := 0) rfl (by simp)) ?_; rintro v10 w10 ⟨K10, M10⟩
    try dsimp only [List.set] at M10
    refine WL.nil ?_
    refine WI.next (?_)
    refine WI.ret ?_
    refine WI.ret_then (?_)
    refine WI.retc rfl rfl (run_loadVar1 ty4 (M10.cell (i := 0) rfl rfl)) ?_
    exact ⟨_, rfl, rfl, M10.keep⟩
  · have hn30 : acts.length ≤ 30 := by omega
    refine WI.skip ?_
    refine WI.next (?_)
    refine WI.seq ?_
    refine WI.region (NO.then_ NO.body) (by kernel_rfl) ?_
    refine WL.ac rfl rfl rfl (Ac.call rfl Tryd.func11 nm11 rfl (oNew_ok w2 (hT.keep M2.keep))) ?_; rintro v11 w11 ⟨go, gt, gl, ge, rfl, N11⟩
    have M11 := (M2.new N11).openS
    refine WL.ac rfl rfl rfl (Ac.alloc M11 al25) ?_; rintro v12 w12 ⟨go_, rfl, hg12, K12, M12⟩
    refine WL.ac0 rfl rfl (Ac.st M12 ty25 rfl rfl rfl (i := 0) rfl (by simp)) ?_; rintro v13 w13 ⟨K13, M13⟩
    try dsimp only [List.set] at M13
    refine WL.nil ?_
    refine WI.next (?_)
    refine WI.seq ?_
    refine WI.region (NO.then_ NO.body) (by kernel_rfl) ?_
    refine WL.ex rfl rfl rfl (Ex.load ty25 rfl (M13.cell (i := 0) rfl rfl)) ?_
    refine WL.ex rfl rfl rfl (Ex.mv rfl) ?_
    refine WL.ac rfl rfl rfl (Ac.call rfl Tryd.func12 nm12 rfl (play19_ok w13 go gt gl ge (nilS 33) none 0 B d acts (M13.get (i := 1) rfl) (M13.rd hr) hok (fun hne => rd_far M13 1 rfl hr (acts_pos hok hne)) hn30 (hT.keep M13.keep) (M13.tabF hT 1 rfl))) ?_; rintro v16 w16 ⟨vs1, A1, c1, Aw, cw, its, rfl, hok2, hl30, hcw, T16⟩
    have M16 := M13.turned (i := 1) rfl T16
    try dsimp only [List.set] at M16
    have M16 : Mem w _ nof [sep (oR go gt gl ge vs1 A1 c1 its) (row (.slice Aw its.length cw) 50 7 (its).length ((its).flatMap ittC)), blk go_ [.pointer (some ⟨go, 0, none⟩)] 25, blk ge (fl (emps dNode e0 (32 + 1))) 31, blk gr [.bool false] 4] := M16.perm (by simpa using List.Perm.swap _ _ _)
    replace M16 := M16.openS
    refine WL.ex rfl rfl rfl (Ex.mv rfl) ?_
    refine WL.ex rfl rfl rfl (Ex.ext rfl rfl) ?_
    refine WL.ex rfl rfl rfl (Ex.ext rfl rfl) ?_
    refine WL.ac rfl rfl rfl (Ac.alloc M16 al27) ?_; rintro v20 w20 ⟨gw, rfl, hg20, K20, M20⟩
    refine WL.ac0 rfl rfl (Ac.st M20 ty27 rfl rfl rfl (i := 0) rfl (by simp)) ?_; rintro v21 w21 ⟨K21, M21⟩
    try dsimp only [List.set] at M21
    refine WL.ex rfl rfl rfl (Ex.asg rfl) ?_
    refine WL.nil ?_
    refine WI.next (?_)
    refine WI.seq ?_
    refine WI.region (NO.then_ NO.body) (by kernel_rfl) ?_
    refine WL.ex rfl rfl rfl (Ex.load ty25 rfl (M21.cell (i := 3) rfl rfl)) ?_
    refine WL.ac rfl rfl rfl (Ac.call rfl Tryd.func18 nm18 rfl (oAll_ok w21 go gt gl ge vs1 A1 c1 its (OxS.of (M21.get (i := 1) rfl)) hok2 (by omega))) ?_; rintro v24 w24 ⟨gB, vV, rfl, N24⟩
    have M24 := (M21.new N24).open1
    obtain ⟨AV, cV, rfl⟩ := own_slice (M24.get (i := 1) rfl)
    refine WL.ex rfl rfl rfl (Ex.asg rfl) ?_
    refine WL.nil ?_
    refine WI.next (?_)
    refine WI.seq ?_
    refine WI.seq ?_
    refine WI.region (NO.then_ (NO.then_ NO.body)) (by kernel_rfl) ?_
    refine WL.ex rfl rfl rfl (Ex.mv rfl) ?_
    refine WL.ex rfl rfl rfl (Ex.not rfl) ?_
    refine WL.ex rfl rfl rfl (Ex.mv rfl) ?_
    
    refine WL.yes rfl rfl rfl rfl ?_
    refine WL.ex rfl rfl rfl (Ex.mv rfl) ?_
    refine WL.yes rfl rfl rfl rfl ?_
    refine WL.ex rfl rfl rfl (Ex.eqFn (by kernel_rfl) rfl) ?_
    refine WL.ex rfl rfl rfl (Ex.pickF rfl rfl) ?_
    refine WL.nil ?_
    refine WI.next (?_)
    refine WI.no rfl ?_
    refine WI.skip ?_
    refine WI.next (?_)
    refine WI.seq ?_
    refine WI.region (NO.then_ NO.body) (by kernel_rfl) ?_
    refine WL.ac rfl rfl rfl (Ac.alloc M24 al3) ?_; rintro v32 w32 ⟨gi, rfl, hg32, K32, M32⟩
    refine WL.ac0 rfl rfl (Ac.st M32 ty3 rfl rfl rfl (i := 0) rfl (by simp)) ?_; rintro v33 w33 ⟨K33, M33⟩
    try dsimp only [List.set] at M33
    refine WL.nil ?_
    refine WI.next (?_)
    refine WI.seq ?_
    refine WI.seq ?_
    refine WI.region (NO.then_ (NO.then_ NO.body)) (by kernel_rfl) ?_
    refine WL.ex rfl rfl rfl (Ex.mv rfl) ?_
    refine WL.nil ?_
    refine WI.next (?_)
    refine WI.block ?_
    refine WI.range (RS := (fun k => [blk gi [.int .i64 ((k : Nat) : Int)] 3, blk gB [.slice AV its.length cV] 27, row (.slice AV its.length cV) 50 7 its.length (its.flatMap ittC), blk gw [.slice Aw its.length cw] 27, blk go_ [.pointer (some ⟨go, 0, none⟩)] 25, oR go gt gl ge vs1 A1 c1 its, row (.slice Aw its.length cw) 50 7 (its).length ((its).flatMap ittC), blk ge (fl (emps dNode e0 (32 + 1))) 31, blk gr [.bool false] 4])) (p := (fun k => k ≤ its.length)) (N := its.length) (enc := (encI its)) (Mem.pick M33 [0, 1, 2, 3, 6, 4, 5, 7, 8] (by decide) rfl) (Nat.zero_le _) rfl Tryd.func81 rfl rfl rfl ?_ ?_ ?_
    · intro l J W hkJ hMJ hyJ h0J
      exact vals_ok W l gB cV AV its J (by omega) hok2 hkJ (fun k W1 h => by obtain ⟨r_, s_, MJ⟩ := hMJ k W1 h; exact ⟨MJ.cell (i := 3) rfl rfl, MJ.rdr (i := 4) rfl⟩) hyJ h0J
    · intro l35 D35 k W35 r35 hk hp35 hrs35 hrp35 M35
      try dsimp only at M35 ⊢
      obtain ⟨p, hpi⟩ : ∃ p, its[k]? = some p := ⟨_, List.getElem?_eq_getElem hk⟩
      have hpm := List.mem_of_getElem? hpi
      have hpo := hok2 p hpm
      have hpd : its.getD k itt0 = p := by rw [List.getD, hpi]; rfl
      obtain ⟨gv, hAw⟩ := own_some (M35.get (i := 8) rfl) (by omega)
      rw [encI_of hpi]
      refine WI.region (NO.then_ NO.none) (by kernel_rfl) ?_
      refine WL.ac rfl rfl rfl (Ac.alloc M35 (l := ittC itt0) (by kernel_rfl)) ?_; rintro v36 w36 ⟨gx, rfl, hg36, K36, M36⟩
      refine WL.ac0 rfl rfl (Ac.stA M36 ty50 rfl rfl rfl (itt_len (by first | assumption | exact itt0_ok)) itt_one (i := 0) rfl (by first | (rw [itt_len (by first | assumption | exact itt0_ok), itt_len (by first | assumption | exact itt0_ok)]; decide) | (rw [itt_len (by first | assumption | exact itt0_ok)]; decide) | rw [itt_len (by first | assumption | exact itt0_ok)])) ?_; rintro v37 w37 ⟨K37, M37⟩
      try dsimp only [List.set] at M37
      rw [splice_all _ _ (by first | rw [itt_len (by first | assumption | exact itt0_ok), itt_len (by first | assumption | exact itt0_ok)] | rw [itt_len (by first | assumption | exact itt0_ok)])] at M37
      refine WL.nil ?_
      refine WI.begin M37 (i := 1) rfl hrs35 (fun W38 M38 => ?_)
      dsimp only [List.set] at M38
      refine WI.block ?_
      refine WI.seq ?_
      refine WI.region (NO.then_ (NO.block NO.round)) (by kernel_rfl) ?_
      refine WL.ex rfl rfl rfl (Ex.load ty25 rfl (M38.cell (i := 7) rfl rfl)) ?_
      refine WL.ex rfl rfl rfl (Ex.load ty3 rfl (M38.cell (i := 3) rfl rfl)) ?_
      refine WL.ex rfl rfl rfl (Ex.cvI Tryd.underlying3 Tryd.underlying23 rfl (u64w_lt _ (by omega))) ?_
      refine WL.ac rfl rfl rfl (Ac.call rfl Tryd.func19 nm19 rfl (oAt_ok W38 go gt gl ge vs1 A1 c1 its k (OxS.of (M38.get (i := 8) rfl)) hok2 (by omega) (by omega))) ?_; rintro v42 w42 ⟨rfl, K42⟩
      rw [hpd, decide_eq_true hk]
      have M42 := M38.step K42
      refine WL.ex rfl rfl rfl (Ex.mv rfl) ?_
      refine WL.ex rfl rfl rfl (Ex.ext rfl rfl) ?_
      refine WL.ex rfl rfl rfl (Ex.ext rfl rfl) ?_
      refine WL.ac rfl rfl rfl (Ac.alloc M42 (l := ittC itt0) (by kernel_rfl)) ?_; rintro v46 w46 ⟨gy, rfl, hg46, K46, M46⟩
      refine WL.ac0 rfl rfl (Ac.stA M46 ty50 rfl rfl rfl (itt_len (by first | assumption | exact itt0_ok)) itt_one (i := 0) rfl (by first | (rw [itt_len (by first | assumption | exact itt0_ok), itt_len (by first | assumption | exact itt0_ok)]; decide) | (rw [itt_len (by first | assumption | exact itt0_ok)]; decide) | rw [itt_len (by first | assumption | exact itt0_ok)])) ?_; rintro v47 w47 ⟨K47, M47⟩
      try dsimp only [List.set] at M47
      rw [splice_all _ _ (by first | rw [itt_len (by first | assumption | exact itt0_ok), itt_len (by first | assumption | exact itt0_ok)] | rw [itt_len (by first | assumption | exact itt0_ok)])] at M47
      refine WL.ex rfl rfl rfl (Ex.asg rfl) ?_
      refine WL.nil ?_
      refine WI.next (?_)
      refine WI.seq ?_
      refine WI.seq ?_
      refine WI.draw (Keep nof w47.drew) [] (.one 0 1 (.one 1 1 (.one 2 0 (.one 3 0 (.one 4 0 (.one 5 1 (.one 6 1 (.one 7 1 (.one 8 0 (.one 9 1 (.one 10 0 (.one 11 0 (.one 12 0 (.one 13 1 (.one 14 1 (.one 15 0 (.one 16 0 (.one 17 0 (.one 18 0 (.one 19 0 (.one 20 0 .nil))))))))))))))))))))) mixed (by kernel_rfl) (by kernel_rfl) (by kernel_rfl) (HQI.then_ (HQI.then_ (HQI.block HQI.round))) (by kernel_rfl) ?_
      obtain ⟨w49, hw49⟩ : ∃ v, v = w47.drew := ⟨_, rfl⟩
      have D49 : Keep nof w47 w49 := by rw [hw49]; exact Keep.drew _ _
      have M49 := M47.step D49
      rw [← hw49]; clear hw49
      refine WP.q (Keep.refl _ _) rfl rfl rfl rfl (fun w' hS => Ex.load ty3 rfl (hS.cell (M49.cell (i := 4) rfl rfl) (fun f => f))) ?_
      refine WP.q (Keep.refl _ _) rfl rfl rfl rfl (fun w' hS => Ex.load ty27 rfl (hS.cell (M49.cell (i := 7) rfl rfl) (fun f => f))) ?_
      refine WP.p rfl rfl rfl rfl (fun _ => Ex.len Tryd.underlying27 rfl) ?_
      refine WP.p rfl rfl rfl rfl (fun _ => Ex.geq rfl rfl) ?_
      rw [decide_eq_false (by omega)]
      refine WP.p rfl rfl rfl rfl (fun _ => Ex.mv rfl) ?_
      refine WP.qy (Keep.refl _ _) rfl rfl rfl rfl rfl rfl (fun w' hS => Ex.loadA ty50 rfl (l := ittC p) (itt_len hpo) ((M49.rdw (i := 1) rfl).keep0 hS)) ?_
      refine WP.qy (Keep.refl _ _) rfl rfl rfl rfl rfl rfl (fun w' hS => Ex.load (v := .slice (some ⟨gv, 0, none⟩) its.length cw) ty27 rfl (by rw [← hAw]; exact hS.cell (M49.cell (i := 7) rfl rfl) (fun f => f))) ?_
      refine WP.qy (Keep.refl _ _) rfl rfl rfl rfl rfl rfl (fun w' hS => Ex.load ty3 rfl (hS.cell (M49.cell (i := 4) rfl rfl) (fun f => f))) ?_
      refine WP.py rfl rfl rfl rfl rfl rfl (fun _ => Ex.ia Tryd.underlying27 sz50 rfl rfl ⟨by omega, by omega⟩) ?_
      refine WP.qy (Keep.refl _ _) rfl rfl rfl rfl rfl rfl (fun w' hS => Ex.loadA ty50 rfl (l := ittC p) (itt_len hpo) (Rd.flat (by have h1 := (M49.rdr (i := 10) rfl).keep0 hS; rw [hAw] at h1; exact h1) (i := (k : Int).toNat) (fun t ht => itt_len (hok2 t ht)) (by simpa using hpi))) ?_
      refine WP.py rfl rfl rfl rfl rfl rfl (fun _ => Ex.neA rfl rfl (eqItt w hpo hpo)) ?_
      rw [decide_eq_true rfl]
      refine WP.p rfl rfl rfl rfl (fun _ => Ex.pickF rfl rfl) ?_
      refine WP.p rfl rfl rfl rfl (fun _ => Ex.mv rfl) ?_
      refine WP.qy (Keep.refl _ _) rfl rfl rfl rfl rfl rfl (fun w' hS => Ex.loadA ty50 rfl (l := ittC p) (itt_len hpo) ((M49.rdw (i := 0) rfl).keep0 hS)) ?_
      refine WP.qy (Keep.refl _ _) rfl rfl rfl rfl rfl rfl (fun w' hS => Ex.loadA ty50 rfl (l := ittC p) (itt_len hpo) ((M49.rdw (i := 1) rfl).keep0 hS)) ?_
      refine WP.py rfl rfl rfl rfl rfl rfl (fun _ => Ex.neA rfl rfl (eqItt w hpo hpo)) ?_
      rw [decide_eq_true rfl]
      refine WP.p rfl rfl rfl rfl (fun _ => Ex.pickF rfl rfl) ?_
      refine WP.p rfl rfl rfl rfl (fun _ => Ex.mv rfl) ?_
      refine WP.py rfl rfl rfl rfl rfl rfl (fun _ => Ex.mv rfl) ?_
      refine WP.py rfl rfl rfl rfl rfl rfl (fun _ => Ex.not rfl) ?_
      refine WP.p rfl rfl rfl rfl (fun _ => Ex.pickF rfl rfl) ?_
      refine WP.nil ?_
      refine WI.next (?_)
      
      refine WI.no rfl ?_
      refine WI.skip ?_
      refine WI.next (?_)
      refine WI.region (NO.block NO.round) (by kernel_rfl) ?_
      refine WL.ex rfl rfl rfl (Ex.load ty3 rfl (M49.cell (i := 4) rfl rfl)) ?_
      refine WL.ex rfl rfl rfl (Ex.add rfl rfl (c := ((k + 1 : Nat) : Int)) (by rw [show (k : Int) + 1 = ((k + 1 : Nat) : Int) by omega]; exact i64w _ (by omega) (by omega))) ?_
      refine WL.ac0 rfl rfl (Ac.st M49 ty3 rfl rfl rfl (i := 4) rfl (by simp)) ?_; rintro v73 w73 ⟨K73, M73⟩
      try dsimp only [List.set] at M73
      refine WL.nil ?_
      refine WI.normal_block (?_)
      refine WI.close M73 (i := 2) rfl (fun W74 M74 => ?_)
      dsimp only [List.set] at M74
      have hre : ({ r35 with state := .ready, pending := none } : Loop) = r35 := by cases r35; cases hrs35; cases hrp35; rfl
      rw [hre] at M74
      have Mf : Mem w W74 nof [obj l35 (.loop r35), obj D35 (.deferred (some [])), blk gi [.int .i64 ((k + 1 : Nat) : Int)] 3, blk gB [.slice AV its.length cV] 27, row (.slice AV its.length cV) 50 7 its.length (its.flatMap ittC), blk gw [.slice Aw its.length cw] 27, blk go_ [.pointer (some ⟨go, 0, none⟩)] 25, oR go gt gl ge vs1 A1 c1 its, row (.slice Aw its.length cw) 50 7 (its).length ((its).flatMap ittC), blk ge (fl (emps dNode e0 (32 + 1))) 31, blk gr [.bool false] 4] := (Mem.pick M74 [2, 3, 4, 5, 6, 7, 8, 9, 10, 11, 12] (by decide) rfl)
      exact ⟨rfl, hk, Mf⟩
    · intro D35 W35 hpN M35
      try dsimp only at M35
      refine WI.normal_block (WI.next (?_))
      refine WI.seq ?_
      refine WI.region (NO.then_ NO.body) (by kernel_rfl) ?_
      have hXo : IttOk (its.getD fr itt0) := getD_ok hok2 fr
      refine WL.ex rfl rfl rfl (Ex.load ty25 rfl (M35.cell (i := 5) rfl rfl)) ?_
      refine WL.ex rfl rfl rfl (Ex.mv rfl) ?_
      refine WL.ac rfl rfl rfl (Ac.call rfl Tryd.func19 nm19 rfl (oAt_ok W35 go gt gl ge vs1 A1 c1 its fr (OxS.of (M35.get (i := 6) rfl)) hok2 (by omega) hfr)) ?_; rintro v77 w77 ⟨rfl, K77⟩
      have M77 := M35.step K77
      refine WL.ex rfl rfl rfl (Ex.mv rfl) ?_
      refine WL.ex rfl rfl rfl (Ex.ext rfl rfl) ?_
      refine WL.ex rfl rfl rfl (Ex.ext rfl rfl) ?_
      refine WL.ac rfl rfl rfl (Ac.alloc M77 (l := ittC itt0) (by kernel_rfl)) ?_; rintro v81 w81 ⟨gX, rfl, hg81, K81, M81⟩
      refine WL.ac0 rfl rfl (Ac.stA M81 ty50 rfl rfl rfl (itt_len (by first | assumption | exact itt0_ok)) itt_one (i := 0) rfl (by first | (rw [itt_len (by first | assumption | exact itt0_ok), itt_len (by first | assumption | exact itt0_ok)]; decide) | (rw [itt_len (by first | assumption | exact itt0_ok)]; decide) | rw [itt_len (by first | assumption | exact itt0_ok)])) ?_; rintro v82 w82 ⟨K82, M82⟩
      try dsimp only [List.set] at M82
      rw [splice_all _ _ (by first | rw [itt_len (by first | assumption | exact itt0_ok), itt_len (by first | assumption | exact itt0_ok)] | rw [itt_len (by first | assumption | exact itt0_ok)])] at M82
      refine WL.ex rfl rfl rfl (Ex.asg rfl) ?_
      refine WL.nil ?_
      refine WI.next (?_)
      refine WI.seq ?_
      refine WI.region (NO.then_ NO.body) (by kernel_rfl) ?_
      have hso := sumI_ok (vsum (amF its tk fr to))
      refine WL.ex rfl rfl rfl (Ex.load ty25 rfl (M82.cell (i := 6) rfl rfl)) ?_
      refine WL.ex rfl rfl rfl (Ex.mv rfl) ?_
      refine WL.ex rfl rfl rfl (Ex.mv rfl) ?_
      refine WL.ex rfl rfl rfl (Ex.mv rfl) ?_
      refine WL.ac rfl rfl rfl (Ac.call rfl Tryd.func20 nm20 rfl (oTotal_ok w82 go gt gl ge vs1 A1 c1 its tk fr to (OxS.of (M82.get (i := 7) rfl)) hok2 (by omega))) ?_; rintro v88 w88 ⟨rfl, K88⟩
      have M88 := M82.step K88
      refine WL.ex rfl rfl rfl (Ex.mv rfl) ?_
      refine WL.ex rfl rfl rfl (Ex.ext rfl rfl) ?_
      refine WL.ex rfl rfl rfl (Ex.ext rfl rfl) ?_
      refine WL.ac rfl rfl rfl (Ac.alloc M88 (l := intV [0, 0, 0, 0]) (by kernel_rfl)) ?_; rintro v92 w92 ⟨gn, rfl, hg92, K92, M92⟩
      refine WL.ac0 rfl rfl (Ac.stA M92 ty48 rfl rfl rfl (int4_len (by first | assumption | exact int4_0)) (intV_one _) (i := 0) rfl (by first | (rw [int4_len (by first | assumption | exact int4_0), int4_len (by first | assumption | exact int4_0)]; decide) | (rw [int4_len (by first | assumption | exact int4_0)]; decide) | rw [int4_len (by first | assumption | exact int4_0)])) ?_; rintro v93 w93 ⟨K93, M93⟩
      try dsimp only [List.set] at M93
      rw [splice_all _ _ (by first | rw [int4_len (by first | assumption | exact int4_0), int4_len (by first | assumption | exact int4_0)] | rw [int4_len (by first | assumption | exact int4_0)])] at M93
      refine WL.ex rfl rfl rfl (Ex.asg rfl) ?_
      refine WL.nil ?_
      refine WI.next (?_)
      refine WI.seq ?_
      refine WI.region (NO.then_ NO.body) (by kernel_rfl) ?_
      refine WL.ex rfl rfl rfl (Ex.load ty27 rfl (M93.cell (i := 6) rfl rfl)) ?_
      refine WL.ex rfl rfl rfl (Ex.mv rfl) ?_
      refine WL.ex rfl rfl rfl (Ex.mv rfl) ?_
      refine WL.ex rfl rfl rfl (Ex.mv rfl) ?_
      refine WL.ac rfl rfl rfl (Ac.call rfl Tryd.func21 nm21 rfl (rTotal_ok w93 Aw cw its tk fr to (M93.rdr (i := 9) rfl) hok2 (by omega))) ?_; rintro v99 w99 ⟨rfl, K99⟩
      have M99 := M93.step K99
      refine WL.ex rfl rfl rfl (Ex.mv rfl) ?_
      refine WL.ex rfl rfl rfl (Ex.ext rfl rfl) ?_
      refine WL.ex rfl rfl rfl (Ex.ext rfl rfl) ?_
      refine WL.ac rfl rfl rfl (Ac.alloc M99 (l := intV [0, 0, 0, 0]) (by kernel_rfl)) ?_; rintro v103 w103 ⟨gm, rfl, hg103, K103, M103⟩
      refine WL.ac0 rfl rfl (Ac.stA M103 ty48 rfl rfl rfl (int4_len (by first | assumption | exact int4_0)) (intV_one _) (i := 0) rfl (by first | (rw [int4_len (by first | assumption | exact int4_0), int4_len (by first | assumption | exact int4_0)]; decide) | (rw [int4_len (by first | assumption | exact int4_0)]; decide) | rw [int4_len (by first | assumption | exact int4_0)])) ?_; rintro v104 w104 ⟨K104, M104⟩
      try dsimp only [List.set] at M104
      rw [splice_all _ _ (by first | rw [int4_len (by first | assumption | exact int4_0), int4_len (by first | assumption | exact int4_0)] | rw [int4_len (by first | assumption | exact int4_0)])] at M104
      refine WL.ex rfl rfl rfl (Ex.asg rfl) ?_
      refine WL.nil ?_
      refine WI.next (?_)
      refine WI.seq ?_
      refine WI.region (NO.then_ NO.body) (by kernel_rfl) ?_
      refine WL.ex rfl rfl rfl (Ex.load ty3 rfl (M104.cell (i := 4) rfl rfl)) ?_
      refine WL.ex rfl rfl rfl (Ex.load ty27 rfl (M104.cell (i := 7) rfl rfl)) ?_
      refine WL.ex rfl rfl rfl (Ex.len Tryd.underlying27 rfl) ?_
      refine WL.ex rfl rfl rfl (Ex.eqI rfl rfl) ?_
      rw [decide_eq_true rfl]
      refine WL.ex rfl rfl rfl (Ex.mv rfl) ?_
      refine WL.yes rfl rfl rfl rfl ?_
      refine WL.ex rfl rfl rfl (Ex.mv rfl) ?_
      refine WL.yes rfl rfl rfl rfl ?_
      refine WL.ex rfl rfl rfl (Ex.mv rfl) ?_
      refine WL.yes rfl rfl rfl rfl ?_
      refine WL.ex rfl rfl rfl (Ex.load ty27 rfl (M104.cell (i := 7) rfl rfl)) ?_
      refine WL.yes rfl rfl rfl rfl ?_
      refine WL.ex rfl rfl rfl (Ex.len Tryd.underlying27 rfl) ?_
      refine WL.yes rfl rfl rfl rfl ?_
      refine WL.ex rfl rfl rfl (Ex.cvI Tryd.underlying3 Tryd.underlying23 rfl (u64w_lt _ (by omega))) ?_
      refine WL.yes rfl rfl rfl rfl ?_
      refine WL.ex rfl rfl rfl (Ex.lss rfl rfl) ?_
      refine WL.yes rfl rfl rfl rfl ?_
      refine WL.ex rfl rfl rfl (Ex.eqB Tryd.underlying4 rfl rfl) ?_
      rw [show (decide (fr < its.length) == decide ((fr : Int) < (its.length : Int))) = true by simp]
      refine WL.ex rfl rfl rfl (Ex.pickT rfl rfl) ?_
      refine WL.ex rfl rfl rfl (Ex.mv rfl) ?_
      refine WL.yes rfl rfl rfl rfl ?_
      refine WL.ex rfl rfl rfl (Ex.mv rfl) ?_
      by_cases hfl : fr < its.length
      · rw [decide_eq_true hfl]
        refine WL.yes rfl rfl rfl rfl ?_
        refine WL.ex rfl rfl rfl (Ex.mv rfl) ?_
        refine WL.no rfl rfl rfl rfl rfl rfl ?_
        refine WL.no rfl rfl rfl rfl rfl rfl ?_
        refine WL.no rfl rfl rfl rfl rfl rfl ?_
        refine WL.yes rfl rfl rfl rfl ?_
        refine WL.ex rfl rfl rfl (Ex.pickT rfl rfl) ?_
        refine WL.ex rfl rfl rfl (Ex.pickT rfl rfl) ?_
        refine WL.ex rfl rfl rfl (Ex.mv rfl) ?_
        refine WL.yes rfl rfl rfl rfl ?_
        refine WL.ex rfl rfl rfl (Ex.loadA ty48 rfl (l := intV (sumI (vsum (amF its tk fr to))).1) (int4_len hso) (M104.rdw (i := 1) rfl)) ?_
        refine WL.yes rfl rfl rfl rfl ?_
        refine WL.ex rfl rfl rfl (Ex.loadA ty48 rfl (l := intV (sumI (vsum (amF its tk fr to))).1) (int4_len hso) (M104.rdw (i := 0) rfl)) ?_
        refine WL.yes rfl rfl rfl rfl ?_
        refine WL.ex rfl rfl rfl (Ex.eqA rfl rfl (eqInt w hso hso)) ?_
        rw [decide_eq_true rfl]
        refine WL.ex rfl rfl rfl (Ex.pickT rfl rfl) ?_
        refine WL.ex rfl rfl rfl (Ex.mv rfl) ?_
        refine WL.yes rfl rfl rfl rfl ?_
        refine WL.ex rfl rfl rfl (Ex.mv rfl) ?_
        by_cases hov : vsum (amF its tk fr to) < M256
        · rw [decide_eq_true hov]
          have hs2 : (sumI (vsum (amF its tk fr to))).2 = 0 := by rw [sumI_0 hov]
          refine WL.yes rfl rfl rfl rfl ?_
          refine WL.ex rfl rfl rfl (Ex.mv rfl) ?_
          refine WL.yes rfl rfl rfl rfl ?_
          refine WL.ex rfl rfl rfl (Ex.mv rfl) ?_
          refine WL.yes rfl rfl rfl rfl ?_
          refine WL.ex rfl rfl rfl (Ex.eqI rfl rfl) ?_
          rw [decide_eq_true hs2]
          refine WL.yes rfl rfl rfl rfl ?_
          refine WL.ex rfl rfl rfl (Ex.pickT rfl rfl) ?_
          refine WL.yes rfl rfl rfl rfl ?_
          refine WL.ex rfl rfl rfl (Ex.mv rfl) ?_
          refine WL.no rfl rfl rfl rfl rfl rfl ?_
          refine WL.no rfl rfl rfl rfl rfl rfl ?_
          refine WL.no rfl rfl rfl rfl rfl rfl ?_
          refine WL.no rfl rfl rfl rfl rfl rfl ?_
          refine WL.no rfl rfl rfl rfl rfl rfl ?_
          refine WL.no rfl rfl rfl rfl rfl rfl ?_
          refine WL.yes rfl rfl rfl rfl ?_
          refine WL.ex rfl rfl rfl (Ex.pickT rfl rfl) ?_
          refine WL.ex rfl rfl rfl (Ex.pickT rfl rfl) ?_
          refine WL.ac0 rfl rfl (Ac.st M104 ty4 rfl rfl rfl (i := 12) rfl (by simp)) ?_; rintro v138 w138 ⟨K138, M138⟩
          try dsimp only [List.set] at M138
          refine WL.nil ?_
          refine WI.next (?_)
          refine WI.ret ?_
          have Mz := Mem.putO (i := 3) M138 rfl (.deferred none)
          dsimp only [List.set] at Mz
          refine WI.retm (M138.get (i := 3) rfl) rfl rfl (run_loadVar1 ty4 (Mz.cell (i := 12) rfl rfl)) ?_
          exact ⟨_, rfl, rfl, Mz.keep⟩
        · rw [decide_eq_false hov]
          have hs2 : (sumI (vsum (amF its tk fr to))).2 = 2 := by rw [sumI_1 hov]
          refine WL.yes rfl rfl rfl rfl ?_
          refine WL.ex rfl rfl rfl (Ex.mv rfl) ?_
          refine WL.no rfl rfl rfl rfl rfl rfl ?_
          refine WL.no rfl rfl rfl rfl rfl rfl ?_
          refine WL.yes rfl rfl rfl rfl ?_
          refine WL.ex rfl rfl rfl (Ex.pickF rfl rfl) ?_
          refine WL.yes rfl rfl rfl rfl ?_
          refine WL.ex rfl rfl rfl (Ex.mv rfl) ?_
          refine WL.yes rfl rfl rfl rfl ?_
          refine WL.ex rfl rfl rfl (Ex.mv rfl) ?_
          refine WL.yes rfl rfl rfl rfl ?_
          refine WL.ex rfl rfl rfl (Ex.not rfl) ?_
          refine WL.yes rfl rfl rfl rfl ?_
          refine WL.ex rfl rfl rfl (Ex.mv rfl) ?_
          
          refine WL.yes rfl rfl rfl rfl ?_
          refine WL.ex rfl rfl rfl (Ex.mv rfl) ?_
          refine WL.yes rfl rfl rfl rfl ?_
          refine WL.ex rfl rfl rfl (Ex.eqI rfl rfl) ?_
          rw [decide_eq_true hs2]
          refine WL.yes rfl rfl rfl rfl ?_
          refine WL.ex rfl rfl rfl (Ex.pickT rfl rfl) ?_
          refine WL.yes rfl rfl rfl rfl ?_
          refine WL.ex rfl rfl rfl (Ex.pickF rfl rfl) ?_
          refine WL.ex rfl rfl rfl (Ex.pickT rfl rfl) ?_
          refine WL.ac0 rfl rfl (Ac.st M104 ty4 rfl rfl rfl (i := 12) rfl (by simp)) ?_; rintro v150 w150 ⟨K150, M150⟩
          try dsimp only [List.set] at M150
          refine WL.nil ?_
          refine WI.next (?_)
          refine WI.ret ?_
          have Mz := Mem.putO (i := 3) M150 rfl (.deferred none)
          dsimp only [List.set] at Mz
          refine WI.retm (M150.get (i := 3) rfl) rfl rfl (run_loadVar1 ty4 (Mz.cell (i := 12) rfl rfl)) ?_
          exact ⟨_, rfl, rfl, Mz.keep⟩
      · rw [decide_eq_false hfl]
        have hX0 : its.getD fr itt0 = itt0 := by rw [List.getD, List.getElem?_eq_none (by omega)]; rfl
        refine WL.yes rfl rfl rfl rfl ?_
        refine WL.ex rfl rfl rfl (Ex.mv rfl) ?_
        refine WL.yes rfl rfl rfl rfl ?_
        refine WL.ex rfl rfl rfl (Ex.loadA ty50 rfl (l := ittC (its.getD fr itt0)) (itt_len hXo) (M104.rdw (i := 2) rfl)) ?_
        refine WL.yes rfl rfl rfl rfl ?_
        refine WL.ex rfl rfl rfl (Ex.bld bd50 (parts := []) (l := ittC itt0) rfl rfl rfl rfl) ?_
        refine WL.yes rfl rfl rfl rfl ?_
        refine WL.ex rfl rfl rfl (Ex.eqA rfl rfl (eqItt w hXo itt0_ok)) ?_
        rw [decide_eq_true hX0]
        refine WL.yes rfl rfl rfl rfl ?_
        refine WL.ex rfl rfl rfl (Ex.pickF rfl rfl) ?_
        refine WL.ex rfl rfl rfl (Ex.pickT rfl rfl) ?_
        refine WL.ex rfl rfl rfl (Ex.mv rfl) ?_
        refine WL.yes rfl rfl rfl rfl ?_
        refine WL.ex rfl rfl rfl (Ex.loadA ty48 rfl (l := intV (sumI (vsum (amF its tk fr to))).1) (int4_len hso) (M104.rdw (i := 1) rfl)) ?_
        refine WL.yes rfl rfl rfl rfl ?_
        refine WL.ex rfl rfl rfl (Ex.loadA ty48 rfl (l := intV (sumI (vsum (amF its tk fr to))).1) (int4_len hso) (M104.rdw (i := 0) rfl)) ?_
        refine WL.yes rfl rfl rfl rfl ?_
        refine WL.ex rfl rfl rfl (Ex.eqA rfl rfl (eqInt w hso hso)) ?_
        rw [decide_eq_true rfl]
        refine WL.ex rfl rfl rfl (Ex.pickT rfl rfl) ?_
        refine WL.ex rfl rfl rfl (Ex.mv rfl) ?_
        refine WL.yes rfl rfl rfl rfl ?_
        refine WL.ex rfl rfl rfl (Ex.mv rfl) ?_
        by_cases hov : vsum (amF its tk fr to) < M256
        · rw [decide_eq_true hov]
          have hs2 : (sumI (vsum (amF its tk fr to))).2 = 0 := by rw [sumI_0 hov]
          refine WL.yes rfl rfl rfl rfl ?_
          refine WL.ex rfl rfl rfl (Ex.mv rfl) ?_
          refine WL.yes rfl rfl rfl rfl ?_
          refine WL.ex rfl rfl rfl (Ex.mv rfl) ?_
          refine WL.yes rfl rfl rfl rfl ?_
          refine WL.ex rfl rfl rfl (Ex.eqI rfl rfl) ?_
          rw [decide_eq_true hs2]
          refine WL.yes rfl rfl rfl rfl ?_
          refine WL.ex rfl rfl rfl (Ex.pickT rfl rfl) ?_
          refine WL.yes rfl rfl rfl rfl ?_
          refine WL.ex rfl rfl rfl (Ex.mv rfl) ?_
          refine WL.no rfl rfl rfl rfl rfl rfl ?_
          refine WL.no rfl rfl rfl rfl rfl rfl ?_
          refine WL.no rfl rfl rfl rfl rfl rfl ?_
          refine WL.no rfl rfl rfl rfl rfl rfl ?_
          refine WL.no rfl rfl rfl rfl rfl rfl ?_
          refine WL.no rfl rfl rfl rfl rfl rfl ?_
          refine WL.yes rfl rfl rfl rfl ?_
          refine WL.ex rfl rfl rfl (Ex.pickT rfl rfl) ?_
          refine WL.ex rfl rfl rfl (Ex.pickT rfl rfl) ?_
          refine WL.ac0 rfl rfl (Ac.st M104 ty4 rfl rfl rfl (i := 12) rfl (by simp)) ?_; rintro v171 w171 ⟨K171, M171⟩
          try dsimp only [List.set] at M171
          refine WL.nil ?_
          refine WI.next (?_)
          refine WI.ret ?_
          have Mz := Mem.putO (i := 3) M171 rfl (.deferred none)
          dsimp only [List.set] at Mz
          refine WI.retm (M171.get (i := 3) rfl) rfl rfl (run_loadVar1 ty4 (Mz.cell (i := 12) rfl rfl)) ?_
          exact ⟨_, rfl, rfl, Mz.keep⟩
        · rw [decide_eq_false hov]
          have hs2 : (sumI (vsum (amF its tk fr to))).2 = 2 := by rw [sumI_1 hov]
          refine WL.yes rfl rfl rfl rfl ?_
          refine WL.ex rfl rfl rfl (Ex.mv rfl) ?_
          refine WL.no rfl rfl rfl rfl rfl rfl ?_
          refine WL.no rfl rfl rfl rfl rfl rfl ?_
          refine WL.yes rfl rfl rfl rfl ?_
          refine WL.ex rfl rfl rfl (Ex.pickF rfl rfl) ?_
          refine WL.yes rfl rfl rfl rfl ?_
          refine WL.ex rfl rfl rfl (Ex.mv rfl) ?_
          refine WL.yes rfl rfl rfl rfl ?_
          refine WL.ex rfl rfl rfl (Ex.mv rfl) ?_
          refine WL.yes rfl rfl rfl rfl ?_
          refine WL.ex rfl rfl rfl (Ex.not rfl) ?_
          refine WL.yes rfl rfl rfl rfl ?_
          refine WL.ex rfl rfl rfl (Ex.mv rfl) ?_
          
          refine WL.yes rfl rfl rfl rfl ?_
          refine WL.ex rfl rfl rfl (Ex.mv rfl) ?_
          refine WL.yes rfl rfl rfl rfl ?_
          refine WL.ex rfl rfl rfl (Ex.eqI rfl rfl) ?_
          rw [decide_eq_true hs2]
          refine WL.yes rfl rfl rfl rfl ?_
          refine WL.ex rfl rfl rfl (Ex.pickT rfl rfl) ?_
          refine WL.yes rfl rfl rfl rfl ?_
          refine WL.ex rfl rfl rfl (Ex.pickF rfl rfl) ?_
          refine WL.ex rfl rfl rfl (Ex.pickT rfl rfl) ?_
          refine WL.ac0 rfl rfl (Ac.st M104 ty4 rfl rfl rfl (i := 12) rfl (by simp)) ?_; rintro v183 w183 ⟨K183, M183⟩
          try dsimp only [List.set] at M183
          refine WL.nil ?_
          refine WI.next (?_)
          refine WI.ret ?_
          have Mz := Mem.putO (i := 3) M183 rfl (.deferred none)
          dsimp only [List.set] at Mz
          refine WI.retm (M183.get (i := 3) rfl) rfl rfl (run_loadVar1 ty4 (Mz.cell (i := 12) rfl rfl)) ?_
          exact ⟨_, rfl, rfl, Mz.keep⟩

end Go.Proofs.YtchmjpdkonfifaaDoor
