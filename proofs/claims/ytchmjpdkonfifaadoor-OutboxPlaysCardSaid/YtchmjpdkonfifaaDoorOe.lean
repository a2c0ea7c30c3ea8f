/- Walks, written by gen.py off the translation's own print: each says what the Go function comes to. -/
import Derived.Test.YtchmjpdkonfifaaDoorOd
set_option linter.unusedVariables false
set_option linter.unusedSimpArgs false
namespace Go.Proofs.YtchmjpdkonfifaaDoor
open Go.Sx Go.RowKit
attribute [local irreducible] Ac Ex WL WC WX WP Gives sha

/- sponsion/sponsionref19.Leaves -/
theorem leaves_ok (w : World) (A : Option Addr) (c : Nat) (its : List Itt) (hr : Rd w A (its.flatMap ittC)) (hok : ∀ t ∈ its, IttOk t) (hb : its.length ≤ 1000) (hR : TabR w) :
    Gives Tryd.prog 16 #[.slice A its.length c] w fun u w1 => New w w1 (row u 31 32 its.length (fl (lsO its))) := by
  have M0 := Mem.start w nof
  refine Gives.enter (n := 19) Tryd.func16 rfl Tryd.ntmps16 rfl (env := [(0, .slice A its.length c)]) rfl ?_
  refine WC.seq ?_
  refine WC.region ?_
  refine WL.ex rfl rfl rfl (Ex.asg rfl) ?_
  refine WL.nil ?_
  refine WX.next (?_)
  refine WC.seq ?_
  refine WC.region ?_
  refine WL.ex rfl rfl rfl (Ex.asg rfl) ?_
  refine WL.nil ?_
  refine WX.next (?_)
  refine WC.seq ?_
  refine WC.seq ?_
  refine WC.region ?_
  refine WL.ex rfl rfl rfl (Ex.mv rfl) ?_
  refine WL.ex rfl rfl rfl (Ex.len Tryd.underlying27 rfl) ?_
  refine WL.ex rfl rfl rfl (Ex.mv rfl) ?_
  refine WL.nil ?_
  refine WX.next (?_)
  refine WC.block ?_
  refine WC.loop (σ := Nat × Value) (fun s => [(3, s.2), (6, .slice A its.length c), (7, .int .i64 (its.length : Int)), (8, .int .i64 (s.1 : Int))]) (fun s wr => s.1 ≤ its.length ∧ Mem w wr nof [row s.2 31 32 s.1 (fl (lsO (its.take s.1)))]) (fun s => its.length - s.1) (((0, .slice none 0 0) : Nat × Value)) ?_ (.cons rfl (.cons rfl (.cons rfl (.cons rfl (.nil))))) ?_
  · exact ⟨by simp, (M0.free (r := row (.slice none 0 0) 31 32 0 []) (row_nil _ _ _) rfl)⟩
  rintro ⟨i, v⟩ w6 ⟨hi, M6⟩
  dsimp only at hi M6
  refine WC.sub (env' := [(3, v), (6, .slice A its.length c), (7, .int .i64 (its.length : Int)), (8, .int .i64 (i : Int))]) (.cons rfl (.cons rfl (.cons rfl (.cons rfl (.nil))))) ?_
  refine WC.seq ?_
  refine WC.region ?_
  refine WL.ex rfl rfl rfl (Ex.lss rfl rfl) ?_
  refine WL.nil ?_
  refine WX.next (?_)
  refine WC.seq ?_
  refine WC.cond_dec rfl (fun hc9 => ?_) (fun hc9 => ?_)
  · obtain ⟨p, hpi⟩ : ∃ p, its[i]? = some p := ⟨_, List.getElem?_eq_getElem (by omega)⟩
    have hpm := List.mem_of_getElem? hpi
    have hpo := hok p hpm
    have hl32 := iLeaf_len p
    obtain ⟨b0, o0, hA⟩ := hr.flat_plain hpm (by rw [itt_len hpo]; omega)
    subst hA
    refine WC.skip ?_
    refine WX.next (?_)
    refine WC.seq ?_
    refine WC.block ?_
    refine WC.seq ?_
    refine WC.region ?_
    refine WL.ex rfl rfl rfl (Ex.ia Tryd.underlying27 sz50 rfl rfl ⟨by omega, by omega⟩) ?_
    refine WL.ex rfl rfl rfl (Ex.loadA ty50 rfl (l := ittC p) (itt_len hpo) (Rd.flat (M6.rd hr) (i := (i : Int).toNat) (fun t ht => itt_len (hok t ht)) (by simpa using hpi))) ?_
    refine WL.ac rfl rfl rfl (Ac.alloc M6 (l := ittC itt0) (by kernel_rfl)) ?_; rintro v10 w10 ⟨gx, rfl, hg10, K10, M10⟩
    refine WL.ac0 rfl rfl (Ac.stA M10 ty50 rfl rfl rfl (itt_len (by first | assumption | exact itt0_ok)) itt_one (i := 0) rfl (by first | (rw [itt_len (by first | assumption | exact itt0_ok), itt_len (by first | assumption | exact itt0_ok)]; decide) | (rw [itt_len (by first | assumption | exact itt0_ok)]; decide) | rw [itt_len (by first | assumption | exact itt0_ok)])) ?_; rintro v11 w11 ⟨K11, M11⟩
    try dsimp only [List.set] at M11
    rw [splice_all _ _ (by first | rw [itt_len (by first | assumption | exact itt0_ok), itt_len (by first | assumption | exact itt0_ok)] | rw [itt_len (by first | assumption | exact itt0_ok)])] at M11
    refine WL.nil ?_
    refine WX.next (?_)
    refine WC.region ?_
    refine WL.ex rfl rfl rfl (Ex.mv rfl) ?_
    refine WL.ex rfl rfl rfl (Ex.loadA ty50 rfl (itt_len (by first | assumption | exact itt0_ok)) (M11.rdw (i := 0) rfl)) ?_
    refine WL.ac rfl rfl rfl (Ac.call rfl Tryd.func46 nm46 rfl (refLeaf_ok w11 p hpo (hR.keep0 M11.keep))) ?_; rintro v14 w14 ⟨rfl, K14⟩
    have M14 := M11.step K14
    refine WL.ac rfl rfl rfl (Ac.bs M14 (parts := [(0, .tmp 14)]) rfl rfl (LitS.agg1 el39 rfl (h32_len hl32) (by decide))) ?_; rintro v15 w15 ⟨gs, rfl, hg15, K15, M15⟩
    refine WL.ac rfl rfl rfl (Ac.app M15 el39 rfl rfl (i := 2) rfl (by rw [h32_len hl32]) (M15.rdw (i := 0) rfl) (bytesV_one _) (by omega) (by unfold maxLen; omega)) ?_; rintro v16 w16 ⟨K16, M16⟩
    try dsimp only [List.set] at M16
    rw [show fl (lsO (its.take i)) ++ bytesV (iLeaf p) = fl (lsO (its.take (i + 1))) by rw [take_snoc hpi]; simp [fl]] at M16
    refine WL.ex rfl rfl rfl (Ex.asg rfl) ?_
    refine WL.nil ?_
    refine WX.normal_block (WX.next (?_))
    refine WC.region ?_
    refine WL.ex rfl rfl rfl (Ex.add rfl rfl (i64w _ (by omega) (by omega))) ?_
    refine WL.ex rfl rfl rfl (Ex.mv rfl) ?_
    refine WL.nil ?_
    refine WX.again (((i + 1, v16) : Nat × Value)) ?_ ?_ (.cons rfl (.cons rfl (.cons rfl (.cons rfl (.nil)))))
    · dsimp only; omega
    · exact ⟨by dsimp only; omega, (Mem.sub M16 (.cons _ (.cons _ (.refl _))))⟩
  · obtain rfl : i = its.length := by omega
    rw [List.take_length] at M6
    refine WC.exit ?_
    refine WX.exit_then (WX.exit_then (WX.exit_block (WX.next (?_))))
    refine WC.seq ?_
    refine WC.region ?_
    refine WL.ex rfl rfl rfl (Ex.mv rfl) ?_
    refine WL.ex rfl rfl rfl (Ex.asg rfl) ?_
    refine WL.nil ?_
    refine WX.next (?_)
    refine WC.ret ?_
    refine WX.ret1 rfl rfl ?_
    exact M6.toNew

theorem acts_pos {acts : List Ac9} (hok : ∀ a ∈ acts, Ac9Ok a) (h : acts ≠ []) : 0 < (acts.flatMap ac9C).length := by
  cases acts with
  | nil => exact absurd rfl h
  | cons a l =>
    rw [List.flatMap_cons, List.length_append, ac9_len (hok a (by simp))]
    omega
theorem ok_ac9s {w : World} {v : Value} (h : CK.ok w (.sl ac9K) v) : ∃ A c, ∃ acts : List Ac9, v = .slice A acts.length c ∧ acts.length ≤ c ∧ c ≤ maxLen ∧ Rd w A (acts.flatMap ac9C) ∧ ∀ a ∈ acts, Ac9Ok a := by
  obtain ⟨A, c, es, h1, h2, h3, h4, h5⟩ := sl_view h ac9C Ac9Ok (fun vs hv => ac9_view vs hv)
  exact ⟨A, c, es, h1, h2, h3, h4, h5⟩
theorem lsO_take (its : List Itt) (n : Nat) : (lsO its).take n = lsO (its.take n) := by rw [lsO, lsO, List.map_take]

/- sponsion/sponsionlaw19.OutboxProofs -/
theorem outboxProofs_walk (w : World) (B : Option Addr) (d : Nat) (acts : List Ac9) (n i : Nat) (hr : Rd w B (acts.flatMap ac9C)) (hok : ∀ a ∈ acts, Ac9Ok a) (hn : n < 18446744073709551616) (hi : i < 18446744073709551616) (hT : Tabs w) (hR : TabR w) :
    Gives Tryd.prog 3 #[.slice B acts.length d, .int .u64 (n : Int), .int .u64 (i : Int)] w fun u w1 => u = .bool true ∧ Keep nof w w1 := by
  have M0 := Mem.start w nof
  have hp0 := prf0_ok
  refine Gives.enter (n := 103) Tryd.func3 rfl Tryd.ntmps3 rfl (env := [(0, .slice B acts.length d), (1, .int .u64 (n : Int)), (2, .int .u64 (i : Int))]) rfl ?_
  refine WC.seq ?_
  refine WC.region ?_
  refine WL.ex rfl rfl rfl (Ex.asg rfl) ?_
  refine WL.nil ?_
  refine WX.next (?_)
  refine WC.seq ?_
  refine WC.seq ?_
  refine WC.region ?_
  refine WL.ac rfl rfl rfl (Ac.call rfl Tryd.func10 nm10 rfl (lives19_ok w (hT.keep M0.keep))) ?_; rintro v2 w2 ⟨rfl, K2⟩
  have M2 := M0.step K2
  refine WL.ex rfl rfl rfl (Ex.not rfl) ?_
  refine WL.ex rfl rfl rfl (Ex.mv rfl) ?_
  refine WL.yes rfl rfl rfl rfl ?_
  refine WL.ex rfl rfl rfl (Ex.mv rfl) ?_
  refine WL.yes rfl rfl rfl rfl ?_
  refine WL.ex rfl rfl rfl (Ex.len Tryd.underlying22 rfl) ?_
  refine WL.yes rfl rfl rfl rfl ?_
  refine WL.ex rfl rfl rfl (Ex.gtr rfl rfl) ?_
  refine WL.ex rfl rfl rfl (Ex.pickF rfl rfl) ?_
  refine WL.nil ?_
  refine WX.next (?_)
  refine WC.cond_dec rfl (fun hc21 => ?_) (fun hc21 => ?_)
  · skip
    refine WC.seq ?_
    refine WC.region ?_
    refine WL.ac rfl rfl rfl (Ac.call rfl Tryd.func10 nm10 rfl (lives19_ok w2 (hT.keep M2.keep))) ?_; rintro v9 w9 ⟨rfl, K9⟩
    have M9 := M2.step K9
    refine WL.ex rfl rfl rfl (Ex.asg rfl) ?_
    refine WL.nil ?_
    refine WX.next (?_)
    refine WC.ret ?_
    refine WX.ret_then (?_)
    refine WX.ret1 rfl rfl ?_
    exact ⟨rfl, M9.keep⟩
  · have hn30 : acts.length ≤ 30 := by omega
    refine WC.skip ?_
    refine WX.next (?_)
    refine WC.seq ?_
    refine WC.region ?_
    refine WL.ac rfl rfl rfl (Ac.call rfl Tryd.func11 nm11 rfl (oNew_ok w2 (hT.keep M2.keep))) ?_; rintro v11 w11 ⟨go, gt, gl, ge, rfl, N11⟩
    have M11 := (M2.new N11).openS
    refine WL.ex rfl rfl rfl (Ex.asg rfl) ?_
    refine WL.nil ?_
    refine WX.next (?_)
    refine WC.seq ?_
    refine WC.region ?_
    refine WL.ex rfl rfl rfl (Ex.mv rfl) ?_
    refine WL.ex rfl rfl rfl (Ex.mv rfl) ?_
    refine WL.ac rfl rfl rfl (Ac.call rfl Tryd.func12 nm12 rfl (play19_ok w11 go gt gl ge (nilS 33) none 0 B d acts (M11.get (i := 0) rfl) (M11.rd hr) hok (fun hne => rd_far M11 0 rfl hr (acts_pos hok hne)) hn30 (hT.keep M11.keep) (M11.tabF hT 0 rfl))) ?_; rintro v15 w15 ⟨vs1, A1, c1, Aw, cw, its, rfl, hok2, hl30, hcw, T15⟩
    have M15 := (M11.turned (i := 0) rfl T15).openS
    refine WL.ex rfl rfl rfl (Ex.mv rfl) ?_
    refine WL.ex rfl rfl rfl (Ex.ext rfl rfl) ?_
    refine WL.ex rfl rfl rfl (Ex.ext rfl rfl) ?_
    refine WL.ex rfl rfl rfl (Ex.asg rfl) ?_
    refine WL.ex rfl rfl rfl (Ex.asg rfl) ?_
    refine WL.nil ?_
    refine WX.next (?_)
    refine WC.seq ?_
    refine WC.seq ?_
    refine WC.region ?_
    refine WL.ex rfl rfl rfl (Ex.mv rfl) ?_
    refine WL.ex rfl rfl rfl (Ex.not rfl) ?_
    refine WL.nil ?_
    refine WX.next (?_)
    
    refine WC.no rfl ?_
    refine WC.skip ?_
    refine WX.next (?_)
    refine WC.seq ?_
    refine WC.region ?_
    have h32t := tNode_32 (d := 32) (lsO32 its) n 32 0
    have hqo := mkQ_ok (lsO32 its) 32 n i
    refine WL.ex rfl rfl rfl (Ex.mv rfl) ?_
    refine WL.ex rfl rfl rfl (Ex.mv rfl) ?_
    refine WL.ac rfl rfl rfl (Ac.call rfl Tryd.func13 nm13 rfl (oRoot_ok w15 go gt gl ge vs1 A1 c1 its n (OxS.of (M15.get (i := 0) rfl)) (ES.of (M15.get (i := 2) rfl)) hn (hT.keep M15.keep))) ?_; rintro v25 w25 ⟨rfl, K25⟩
    have M25 := M15.step K25
    refine WL.ex rfl rfl rfl (Ex.mv rfl) ?_
    refine WL.ex rfl rfl rfl (Ex.ext rfl rfl) ?_
    refine WL.ex rfl rfl rfl (Ex.ext rfl rfl) ?_
    refine WL.ac rfl rfl rfl (Ac.alloc M25 (l := bytesV (List.replicate 32 0)) (by kernel_rfl)) ?_; rintro v29 w29 ⟨gR, rfl, hg29, K29, M29⟩
    refine WL.ac0 rfl rfl (Ac.stA M29 ty31 rfl rfl rfl (h32_len (by first | assumption | exact h32_0)) (bytesV_one _) (i := 0) rfl (by first | (rw [h32_len (by first | assumption | exact h32_0), h32_len (by first | assumption | exact h32_0)]; decide) | (rw [h32_len (by first | assumption | exact h32_0)]; decide) | rw [h32_len (by first | assumption | exact h32_0)])) ?_; rintro v30 w30 ⟨K30, M30⟩
    try dsimp only [List.set] at M30
    rw [splice_all _ _ (by first | rw [h32_len (by first | assumption | exact h32_0), h32_len (by first | assumption | exact h32_0)] | rw [h32_len (by first | assumption | exact h32_0)])] at M30
    refine WL.ex rfl rfl rfl (Ex.asg rfl) ?_
    refine WL.nil ?_
    refine WX.next (?_)
    refine WC.seq ?_
    refine WC.region ?_
    refine WL.ex rfl rfl rfl (Ex.mv rfl) ?_
    refine WL.ex rfl rfl rfl (Ex.mv rfl) ?_
    refine WL.ex rfl rfl rfl (Ex.mv rfl) ?_
    refine WL.ac rfl rfl rfl (Ac.call rfl Tryd.func14 nm14 rfl (oProve_ok w30 go gt gl ge vs1 A1 c1 its n i (OxS.of (M30.get (i := 1) rfl)) (ES.of (M30.get (i := 3) rfl)) (by omega) hn hi (hT.keep M30.keep))) ?_; rintro v35 w35 ⟨rfl, K35⟩
    have M35 := M30.step K35
    refine WL.ex rfl rfl rfl (Ex.mv rfl) ?_
    refine WL.ex rfl rfl rfl (Ex.ext rfl rfl) ?_
    refine WL.ex rfl rfl rfl (Ex.ext rfl rfl) ?_
    refine WL.ac rfl rfl rfl (Ac.alloc M35 (l := prfC prf0) (by kernel_rfl)) ?_; rintro v39 w39 ⟨gP, rfl, hg39, K39, M39⟩
    refine WL.ac0 rfl rfl (Ac.stA M39 ty34 rfl rfl rfl (prf_len (by first | assumption | exact prf0_ok)) (prf_one) (i := 0) rfl (by first | (rw [prf_len (by first | assumption | exact prf0_ok), prf_len (by first | assumption | exact prf0_ok)]; decide) | (rw [prf_len (by first | assumption | exact prf0_ok)]; decide) | rw [prf_len (by first | assumption | exact prf0_ok)])) ?_; rintro v40 w40 ⟨K40, M40⟩
    try dsimp only [List.set] at M40
    rw [splice_all _ _ (by first | rw [prf_len (by first | assumption | exact prf0_ok), prf_len (by first | assumption | exact prf0_ok)] | rw [prf_len (by first | assumption | exact prf0_ok)])] at M40
    refine WL.ex rfl rfl rfl (Ex.asg rfl) ?_
    refine WL.nil ?_
    refine WX.next (?_)
    refine WC.seq ?_
    refine WC.region ?_
    refine WL.ex rfl rfl rfl (Ex.bld bd34 (parts := []) (l := prfC (List.replicate 32 (List.replicate 32 0))) rfl rfl rfl rfl) ?_
    refine WL.ac rfl rfl rfl (Ac.alloc M40 (l := prfC prf0) (by kernel_rfl)) ?_; rintro v43 w43 ⟨gZ, rfl, hg43, K43, M43⟩
    refine WL.ac0 rfl rfl (Ac.stA M43 ty34 rfl rfl rfl (prf_len (by first | assumption | exact prf0_ok)) (prf_one) (i := 0) rfl (by first | (rw [prf_len (by first | assumption | exact prf0_ok), prf_len (by first | assumption | exact prf0_ok)]; decide) | (rw [prf_len (by first | assumption | exact prf0_ok)]; decide) | rw [prf_len (by first | assumption | exact prf0_ok)])) ?_; rintro v44 w44 ⟨K44, M44⟩
    try dsimp only [List.set] at M44
    rw [splice_all _ _ (by first | rw [prf_len (by first | assumption | exact prf0_ok), prf_len (by first | assumption | exact prf0_ok)] | rw [prf_len (by first | assumption | exact prf0_ok)])] at M44
    refine WL.nil ?_
    refine WX.next (?_)
    refine WC.seq ?_
    refine WC.block ?_
    refine WC.seq ?_
    refine WC.region ?_
    refine WL.ex rfl rfl rfl (Ex.mv rfl) ?_
    refine WL.ex rfl rfl rfl (Ex.mv rfl) ?_
    refine WL.ex rfl rfl rfl (Ex.len Tryd.underlying27 rfl) ?_
    refine WL.ex rfl rfl rfl (Ex.cvI Tryd.underlying3 Tryd.underlying23 rfl (u64w_lt _ (by omega))) ?_
    refine WL.ex rfl rfl rfl (Ex.gtr rfl rfl) ?_
    refine WL.ex rfl rfl rfl (Ex.asg rfl) ?_
    refine WL.nil ?_
    refine WX.next (?_)
    refine WC.cond_dec rfl (fun h46 => ?_) (fun h46 => ?_)
    · have hno : tNode 32 (lsO its) n 32 0 = (List.replicate 32 0, false) := tNode_no (fun h => by have h1 := h.1; rw [lsO_len] at h1; omega)
      have hme : mkE (lsO its) n i = 1 := if_pos (by rw [lsO_len]; omega)
      have hmq : mkQ 32 (lsO its) n i = (List.replicate 32 (List.replicate 32 0)) := by rw [mkQ, hme]; rfl
      rw [hno, hme]
      rw [hno, hmq] at M44
      refine WC.seq ?_
      refine WC.region ?_
      refine WL.ex rfl rfl rfl (Ex.mv rfl) ?_
      refine WL.ex rfl rfl rfl (Ex.not rfl) ?_
      refine WL.ex rfl rfl rfl (Ex.mv rfl) ?_
      
      refine WL.yes rfl rfl rfl rfl ?_
      refine WL.ex rfl rfl rfl (Ex.loadA ty31 rfl (l := bytesV (List.replicate 32 0)) (h32_len h32_0) (M44.rdw (i := 2) rfl)) ?_
      refine WL.yes rfl rfl rfl rfl ?_
      refine WL.ex rfl rfl rfl (Ex.bld bd31 (parts := []) (l := bytesV (List.replicate 32 0)) rfl rfl rfl rfl) ?_
      refine WL.yes rfl rfl rfl rfl ?_
      refine WL.ex rfl rfl rfl (Ex.eqA rfl rfl (eqHash w h32_0 h32_0)) ?_
      rw [decide_eq_true rfl]
      refine WL.ex rfl rfl rfl (Ex.pickT rfl rfl) ?_
      refine WL.ex rfl rfl rfl (Ex.mv rfl) ?_
      refine WL.yes rfl rfl rfl rfl ?_
      refine WL.ex rfl rfl rfl (Ex.mv rfl) ?_
      refine WL.yes rfl rfl rfl rfl ?_
      refine WL.ex rfl rfl rfl (Ex.eqI rfl rfl) ?_
      rw [decide_eq_true rfl]
      refine WL.ex rfl rfl rfl (Ex.pickT rfl rfl) ?_
      refine WL.ex rfl rfl rfl (Ex.mv rfl) ?_
      refine WL.yes rfl rfl rfl rfl ?_
      refine WL.ex rfl rfl rfl (Ex.loadA ty34 rfl (l := prfC (List.replicate 32 (List.replicate 32 0))) (prf_len prf0_ok) (M44.rdw (i := 1) rfl)) ?_
      refine WL.yes rfl rfl rfl rfl ?_
      refine WL.ex rfl rfl rfl (Ex.loadA ty34 rfl (prf_len (by first | assumption | exact prf0_ok)) (M44.rdw (i := 0) rfl)) ?_
      refine WL.yes rfl rfl rfl rfl ?_
      refine WL.ex rfl rfl rfl (Ex.eqA rfl rfl (eqPrf w hp0 hp0)) ?_
      rw [decide_eq_true rfl]
      refine WL.ex rfl rfl rfl (Ex.pickT rfl rfl) ?_
      refine WL.ex rfl rfl rfl (Ex.asg rfl) ?_
      refine WL.nil ?_
      refine WX.next (?_)
      refine WC.ret ?_
      refine WX.ret_block (WX.ret_then (?_))
      refine WX.ret1 rfl rfl ?_
      exact ⟨rfl, M44.keep⟩
    · have hnl : n ≤ its.length := by omega
      have hyes : tNode 32 (lsO its) n 32 0 = (nd dNode e0 (lsO (its.take n)) 32 0, true) := tNode_yes (k := 32) (by rw [lsO_len]; omega) (Nat.le_refl _) (by decide) (by rw [lsO_take])
      have htl : (its.take n).length = n := by rw [List.length_take]; omega
      have hnd32 := nd32 (lsO32 (its.take n)) 32 0
      rw [hyes]
      rw [hyes] at M44
      refine WC.seq ?_
      refine WC.draw (Keep nof w44.drew) [] (.one 0 0 (.one 1 0 (.one 2 0 (.one 4 0 (.one 5 0 (.one 6 0 (.one 3 1 (.one 7 2 (.one 8 2 (.one 9 0 (.one 10 0 (.one 11 0 .nil)))))))))))) mixed (by kernel_rfl) (by kernel_rfl) (by kernel_rfl) (HQ.then_ (HQ.block (HQ.then_ HQ.body))) ?_
      obtain ⟨w68, hw68⟩ : ∃ v, v = w44.drew := ⟨_, rfl⟩
      have D68 : Keep nof w44 w68 := by rw [hw68]; exact Keep.drew _ _
      have M68 := M44.step D68
      rw [← hw68]; clear hw68
      refine WP.p rfl rfl rfl rfl (fun _ => Ex.mv rfl) ?_
      refine WP.p rfl rfl rfl rfl (fun _ => Ex.not rfl) ?_
      refine WP.p rfl rfl rfl rfl (fun _ => Ex.mv rfl) ?_
      
      refine WP.py rfl rfl rfl rfl rfl rfl (fun _ => Ex.mv rfl) ?_
      refine WP.py rfl rfl rfl rfl rfl rfl (fun _ => Ex.mv rfl) ?_
      refine WP.py rfl rfl rfl rfl rfl rfl (fun _ => Ex.slh Tryd.underlying27 sz50 rfl rfl (Int.natCast_nonneg _) (by omega)) ?_
      rw [Int.toNat_natCast]
      refine WP.qy (Keep.refl _ _) rfl rfl rfl rfl rfl rfl (fun w' hS => Ex.loadA ty31 rfl (l := bytesV (nd dNode e0 (lsO (its.take n)) 32 0)) (h32_len hnd32) ((M68.rdw (i := 2) rfl).keep0 hS)) ?_
      refine WP.ays rfl rfl rfl rfl rfl rfl (Ac.call rfl Tryd.func16 nm16 rfl ((by
        have hx := leaves_ok w68 Aw cw (its.take n) (by rw [its_take hok2]; exact (M68.rdr (i := 4) rfl).take _) (fun t ht => hok2 t (List.mem_of_mem_take ht)) (by rw [htl]; omega) (hR.keep0 M68.keep)
        rw [htl] at hx
        exact hx))) ?_; rintro v76 w76 N76
      refine ⟨Keep nof w76, fun u h => N76.keep.trans h, Keep.refl _ _, ?_⟩
      have M76 := M68.new N76
      obtain ⟨Al, cl, rfl⟩ := own_slice (M76.get (i := 0) rfl)
      refine WP.ays rfl rfl rfl rfl rfl rfl (Ac.call rfl Tryd.func15 nm15 rfl ((by
        have hx := rNode_ok w76 Al cl (lsO (its.take n)) 32 0 (by have := (M76.rdr (i := 0) rfl); exact this) (lsO32 _) (by rw [lsO_len, htl]; omega) (by decide) (by decide) (hR.keep0 M76.keep)
        rw [lsO_len, htl] at hx
        exact hx))) ?_; rintro v77 w77 ⟨rfl, K77⟩
      refine ⟨Keep nof w77, fun u h => K77.trans h, Keep.refl _ _, ?_⟩
      have M77 := M76.step K77
      refine WP.py rfl rfl rfl rfl rfl rfl (fun _ => Ex.neA rfl rfl (eqHash w hnd32 hnd32)) ?_
      rw [decide_eq_true rfl]
      refine WP.p rfl rfl rfl rfl (fun _ => Ex.pickF rfl rfl) ?_
      refine WP.p rfl rfl rfl rfl (fun _ => Ex.asg rfl) ?_
      refine WP.nil ?_
      refine WX.next (?_)
      refine WC.no rfl ?_
      refine WC.seq ?_
      refine WC.region ?_
      refine WL.ex rfl rfl rfl (Ex.mv rfl) ?_
      refine WL.ex rfl rfl rfl (Ex.mv rfl) ?_
      refine WL.ex rfl rfl rfl (Ex.geq rfl rfl) ?_
      refine WL.ex rfl rfl rfl (Ex.asg rfl) ?_
      refine WL.nil ?_
      refine WX.next (?_)
      refine WC.cond_dec rfl (fun h80 => ?_) (fun h80 => ?_)
      · have hme : mkE (lsO its) n i = 10 := by rw [mkE, lsO_len, if_neg (by omega), if_pos (by omega)]
        have hmq : mkQ 32 (lsO its) n i = (List.replicate 32 (List.replicate 32 0)) := by rw [mkQ, hme]; rfl
        rw [hme]
        rw [hmq] at M77
        refine WC.seq ?_
        refine WC.region ?_
        refine WL.ex rfl rfl rfl (Ex.mv rfl) ?_
        refine WL.ex rfl rfl rfl (Ex.eqI rfl rfl) ?_
        rw [decide_eq_true rfl]
        refine WL.ex rfl rfl rfl (Ex.mv rfl) ?_
        refine WL.yes rfl rfl rfl rfl ?_
        refine WL.ex rfl rfl rfl (Ex.loadA ty34 rfl (l := prfC (List.replicate 32 (List.replicate 32 0))) (prf_len prf0_ok) (M77.rdw (i := 2) rfl)) ?_
        refine WL.yes rfl rfl rfl rfl ?_
        refine WL.ex rfl rfl rfl (Ex.loadA ty34 rfl (prf_len (by first | assumption | exact prf0_ok)) (M77.rdw (i := 1) rfl)) ?_
        refine WL.yes rfl rfl rfl rfl ?_
        refine WL.ex rfl rfl rfl (Ex.eqA rfl rfl (eqPrf w hp0 hp0)) ?_
        rw [decide_eq_true rfl]
        refine WL.ex rfl rfl rfl (Ex.pickT rfl rfl) ?_
        refine WL.ex rfl rfl rfl (Ex.asg rfl) ?_
        refine WL.nil ?_
        refine WX.next (?_)
        refine WC.ret ?_
        refine WX.ret_block (WX.ret_then (?_))
        refine WX.ret1 rfl rfl ?_
        exact ⟨rfl, M77.keep⟩
      · have hme : mkE (lsO its) n i = 0 := by rw [mkE, lsO_len, if_neg (by omega), if_neg (by omega)]
        have hmq : mkQ 32 (lsO its) n i = fillTo 32 32 (pF (lsO its) n i) (List.replicate 32 0) := by rw [mkQ, hme]; rfl
        rw [hme]
        rw [hmq] at M77 hqo
        refine WC.skip ?_
        refine WX.normal_block (WX.next (?_))
        refine WC.seq ?_
        refine WC.draw (Keep nof w77.drew) [] (.one 0 0 (.one 1 0 (.one 2 0 (.one 4 0 (.one 5 0 (.one 6 0 (.one 8 0 (.one 3 1 (.one 7 2 (.one 9 2 (.one 10 0 (.one 11 0 (.one 12 0 .nil))))))))))))) mixed (by kernel_rfl) (by kernel_rfl) (by kernel_rfl) (HQ.then_ HQ.body) ?_
        obtain ⟨w93, hw93⟩ : ∃ v, v = w77.drew := ⟨_, rfl⟩
        have D93 : Keep nof w77 w93 := by rw [hw93]; exact Keep.drew _ _
        have M93 := M77.step D93
        rw [← hw93]; clear hw93
        refine WP.p rfl rfl rfl rfl (fun _ => Ex.mv rfl) ?_
        refine WP.p rfl rfl rfl rfl (fun _ => Ex.eqI rfl rfl) ?_
        rw [decide_eq_true rfl]
        refine WP.p rfl rfl rfl rfl (fun _ => Ex.mv rfl) ?_
        refine WP.py rfl rfl rfl rfl rfl rfl (fun _ => Ex.mv rfl) ?_
        refine WP.py rfl rfl rfl rfl rfl rfl (fun _ => Ex.mv rfl) ?_
        refine WP.py rfl rfl rfl rfl rfl rfl (fun _ => Ex.slh Tryd.underlying27 sz50 rfl rfl (Int.natCast_nonneg _) (by omega)) ?_
        rw [Int.toNat_natCast]
        refine WP.py rfl rfl rfl rfl rfl rfl (fun _ => Ex.mv rfl) ?_
        refine WP.qy (Keep.refl _ _) rfl rfl rfl rfl rfl rfl (fun w' hS => Ex.loadA ty34 rfl (l := prfC (fillTo 32 32 (pF (lsO its) n i) (List.replicate 32 0))) (prf_len hqo) ((M93.rdw (i := 2) rfl).keep0 hS)) ?_
        refine WP.ays rfl rfl rfl rfl rfl rfl (Ac.call rfl Tryd.func16 nm16 rfl ((by
          have hx := leaves_ok w93 Aw cw (its.take n) (by rw [its_take hok2]; exact (M93.rdr (i := 5) rfl).take _) (fun t ht => hok2 t (List.mem_of_mem_take ht)) (by rw [htl]; omega) (hR.keep0 M93.keep)
          rw [htl] at hx
          exact hx))) ?_; rintro v102 w102 N102
        refine ⟨Keep nof w102, fun u h => N102.keep.trans h, Keep.refl _ _, ?_⟩
        have M102 := M93.new N102
        obtain ⟨Al, cl, rfl⟩ := own_slice (M102.get (i := 0) rfl)
        refine WP.ays rfl rfl rfl rfl rfl rfl (Ac.call rfl Tryd.func17 nm17 rfl ((by
          have hx := rMake_ok w102 32 Al cl (lsO its) (lsO (its.take n)) n i (by have := (M102.rdr (i := 0) rfl); exact this) (lsO32 its) (lsO_take its n).symm (by rw [lsO_len, htl]; omega) (by decide) (by omega) (hR.keep0 M102.keep)
          rw [lsO_len, htl] at hx
          exact hx))) ?_; rintro v103 w103 ⟨rfl, K103⟩
        refine ⟨Keep nof w103, fun u h => K103.trans h, Keep.refl _ _, ?_⟩
        have M103 := M102.step K103
        refine WP.py rfl rfl rfl rfl rfl rfl (fun _ => Ex.eqA rfl rfl (eqPrf w hqo hqo)) ?_
        rw [decide_eq_true rfl]
        refine WP.p rfl rfl rfl rfl (fun _ => Ex.pickT rfl rfl) ?_
        refine WP.p rfl rfl rfl rfl (fun _ => Ex.asg rfl) ?_
        refine WP.nil ?_
        refine WX.next (?_)
        refine WC.ret ?_
        refine WX.ret1 rfl rfl ?_
        exact ⟨rfl, M103.keep⟩

end Go.Proofs.YtchmjpdkonfifaaDoor
