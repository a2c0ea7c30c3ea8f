/- Walks, written by gen.py off the translation's own print: each says what the Go function comes to. -/
import Derived.Test.YtchmjpdkonfifaaDoorOa
set_option linter.unusedVariables false
set_option linter.unusedSimpArgs false
namespace Go.Proofs.YtchmjpdkonfifaaDoor
open Go.Sx Go.RowKit
attribute [local irreducible] Ac Ex WL WC WX WP Gives sha

/- (*sponsion/outbox.Outbox).At -/
theorem oAt_ok (w : World) (go gt gl ge : Nat) (vs : List Value) (A : Option Addr) (c : Nat) (its : List Itt) (i : Nat) (hO : OxS w go gt gl ge vs A c its) (hok : ∀ t ∈ its, IttOk t) (hl : its.length ≤ 1000) (hi : i < 18446744073709551616) :
    Gives Tryd.prog 19 #[.pointer (some ⟨go, 0, none⟩), .int .u64 (i : Int)] w fun u w1 => u = .tuple #[.agg (ittC (its.getD i itt0)).toArray, .bool (decide (i < its.length))] ∧ Keep nof w w1 := by
  have M0 := Mem.start w nof
  refine Gives.enter (n := 18) Tryd.func19 rfl Tryd.ntmps19 rfl (env := [(0, .pointer (some ⟨go, 0, none⟩)), (1, .int .u64 (i : Int))]) rfl ?_
  refine WC.seq ?_
  refine WC.region ?_
  refine WL.ac rfl rfl rfl (Ac.alloc M0 (l := ittC itt0) (by kernel_rfl)) ?_; rintro v1 w1 ⟨gr, rfl, hg1, K1, M1⟩
  refine WL.ex rfl rfl rfl (Ex.asg rfl) ?_
  refine WL.nil ?_
  refine WX.next (?_)
  refine WC.seq ?_
  refine WC.seq ?_
  refine WC.region ?_
  refine WL.ex rfl rfl rfl (Ex.mv rfl) ?_
  refine WL.ex rfl rfl rfl (Ex.mv rfl) ?_
  refine WL.ac rfl rfl rfl (Ac.call rfl Tryd.func25 nm25 rfl (oLen_ok w1 go gt gl ge vs A c its (hO.keep M1.keep) (by omega))) ?_; rintro v5 w5 ⟨rfl, K5⟩
  have M5 := M1.step K5
  refine WL.ex rfl rfl rfl (Ex.geq rfl rfl) ?_
  refine WL.nil ?_
  refine WX.next (?_)
  refine WC.cond_dec rfl (fun h9 => ?_) (fun h9 => ?_)
  · have he : its.getD i itt0 = itt0 := by rw [List.getD, List.getElem?_eq_none (by omega)]; rfl
    have hd : decide (i < its.length) = false := decide_eq_false (by omega)
    have heo := itt0_ok
    refine WC.seq ?_
    refine WC.region ?_
    refine WL.ex rfl rfl rfl (Ex.bld bd50 (parts := []) (l := ittC itt0) rfl rfl rfl rfl) ?_
    refine WL.ac0 rfl rfl (Ac.stA M5 ty50 rfl rfl (vs := ittC itt0) rfl (itt_len itt0_ok) itt_one (i := 0) rfl (by rw [itt_len itt0_ok]; first | decide | (rw [itt_len itt0_ok]; decide))) ?_; rintro v8 w8 ⟨K8, M8⟩
    try dsimp only [List.set] at M8
    rw [splice_all _ _ (by first | rfl | rw [itt_len itt0_ok, itt_len itt0_ok])] at M8
    refine WL.ex rfl rfl rfl (Ex.asg rfl) ?_
    refine WL.nil ?_
    refine WX.next (?_)
    refine WC.ret ?_
    refine WX.ret_then (?_)
    refine WX.retn rfl (.cell rfl (run_loadVarA ty50 (by exact itt_len heo) (M8.rdw (i := 0) rfl)) (.tmp rfl .nil)) rfl ?_
    rw [he, hd]
    exact ⟨rfl, M8.keep⟩
  · have hd : decide (i < its.length) = true := decide_eq_true (by omega)
    obtain ⟨p, hpi⟩ : ∃ p, its[i]? = some p := ⟨_, List.getElem?_eq_getElem (by omega)⟩
    have hpo := hok p (List.mem_of_getElem? hpi)
    have he : its.getD i itt0 = p := by rw [List.getD, hpi]; rfl
    have heo := hpo
    obtain ⟨b0, o0, hA⟩ := hO.rd.flat_plain (List.mem_of_getElem? hpi) (by rw [itt_len hpo]; omega)
    subst hA
    refine WC.skip ?_
    refine WX.next (?_)
    refine WC.seq ?_
    refine WC.region ?_
    refine WL.ex rfl rfl rfl (Ex.mv rfl) ?_
    refine WL.ex rfl rfl rfl (Ex.nilc rfl) ?_
    refine WL.ex rfl rfl rfl (Ex.fa fl93_0 rfl) ?_
    refine WL.ex rfl rfl rfl (Ex.load ty27 rfl (hO.keep M5.keep).c0) ?_
    refine WL.ex rfl rfl rfl (Ex.mv rfl) ?_
    refine WL.ex rfl rfl rfl (Ex.ia Tryd.underlying27 sz50 rfl rfl ⟨by omega, by omega⟩) ?_
    refine WL.ex rfl rfl rfl (Ex.loadA ty50 rfl (l := ittC p) (itt_len hpo) (Rd.flat (hO.keep M5.keep).rd (i := (i : Int).toNat) (fun t ht => itt_len (hok t ht)) (by simpa using hpi))) ?_
    refine WL.ac0 rfl rfl (Ac.stA M5 ty50 rfl rfl (vs := ittC p) rfl (itt_len hpo) itt_one (i := 0) rfl (by rw [itt_len hpo]; first | decide | (rw [itt_len itt0_ok]; decide))) ?_; rintro v17 w17 ⟨K17, M17⟩
    try dsimp only [List.set] at M17
    rw [splice_all _ _ (by first | rfl | rw [itt_len hpo, itt_len itt0_ok])] at M17
    refine WL.ex rfl rfl rfl (Ex.asg rfl) ?_
    refine WL.nil ?_
    refine WX.next (?_)
    refine WC.ret ?_
    refine WX.retn rfl (.cell rfl (run_loadVarA ty50 (by exact itt_len heo) (M17.rdw (i := 0) rfl)) (.tmp rfl .nil)) rfl ?_
    rw [he, hd]
    exact ⟨rfl, M17.keep⟩

/- (*sponsion/outbox.Outbox).Root -/
theorem oRoot_ok (w : World) (go gt gl ge : Nat) (vs : List Value) (A : Option Addr) (c : Nat) (its : List Itt) (n : Nat) (hO : OxS w go gt gl ge vs A c its) (hE : ES w ge 32) (hn : n < 18446744073709551616) (hT : Tabs w) :
    Gives Tryd.prog 13 #[.pointer (some ⟨go, 0, none⟩), .int .u64 (n : Int)] w fun u w1 => u = .tuple #[.agg (bytesV (tNode 32 (lsO its) n 32 0).1).toArray, .bool (tNode 32 (lsO its) n 32 0).2] ∧ Keep nof w w1 := by
  have M0 := Mem.start w nof
  have h32t := tNode_32 (d := 32) (lsO32 its) n 32 0
  refine Gives.enter (n := 14) Tryd.func13 rfl Tryd.ntmps13 rfl (env := [(0, .pointer (some ⟨go, 0, none⟩)), (1, .int .u64 (n : Int))]) rfl ?_
  refine WC.seq ?_
  refine WC.region ?_
  refine WL.ac rfl rfl rfl (Ac.alloc M0 (l := bytesV (List.replicate 32 0)) (by kernel_rfl)) ?_; rintro v1 w1 ⟨gr, rfl, hg1, K1, M1⟩
  refine WL.ex rfl rfl rfl (Ex.asg rfl) ?_
  refine WL.nil ?_
  refine WX.next (?_)
  refine WC.seq ?_
  refine WC.region ?_
  refine WL.ex rfl rfl rfl (Ex.mv rfl) ?_
  refine WL.ex rfl rfl rfl (Ex.nilc rfl) ?_
  refine WL.ex rfl rfl rfl (Ex.fa fl93_1 rfl) ?_
  refine WL.ex rfl rfl rfl (Ex.load ty68 rfl (hO.keep M1.keep).c1) ?_
  refine WL.ex rfl rfl rfl (Ex.mv rfl) ?_
  refine WL.ac rfl rfl rfl (Ac.call rfl Tryd.func40 nm40 rfl (tNode_ok w1 gt gl ge 32 vs (lsO its) n 32 0 (hO.keep M1.keep).tr (hE.keep M1.keep) (lsO32 its) hn (by decide) (by decide) (by decide) (hT.keep M1.keep))) ?_; rintro v8 w8 ⟨rfl, K8⟩
  have M8 := M1.step K8
  refine WL.ex rfl rfl rfl (Ex.ext rfl rfl) ?_
  refine WL.ex rfl rfl rfl (Ex.ext rfl rfl) ?_
  refine WL.ac0 rfl rfl (Ac.stA M8 ty31 rfl rfl rfl (h32_len (by first | assumption | exact h32_0)) (bytesV_one _) (i := 0) rfl (by first | (rw [h32_len (by first | assumption | exact h32_0), h32_len (by first | assumption | exact h32_0)]; decide) | (rw [h32_len (by first | assumption | exact h32_0)]; decide) | rw [h32_len (by first | assumption | exact h32_0)])) ?_; rintro v11 w11 ⟨K11, M11⟩
  try dsimp only [List.set] at M11
  rw [splice_all _ _ (by first | rw [h32_len (by first | assumption | exact h32_0), h32_len (by first | assumption | exact h32_0)] | rw [h32_len (by first | assumption | exact h32_0)])] at M11
  refine WL.ex rfl rfl rfl (Ex.asg rfl) ?_
  refine WL.nil ?_
  refine WX.next (?_)
  refine WC.ret ?_
  refine WX.retn rfl (.cell rfl (run_loadVarA ty31 (h32_len (by first | assumption | exact h32_0)) (M11.rdw (i := 0) rfl)) (.tmp rfl .nil)) rfl ?_
  exact ⟨rfl, M11.keep⟩

/- (*sponsion/outbox.Outbox).Prove -/
theorem oProve_ok (w : World) (go gt gl ge : Nat) (vs : List Value) (A : Option Addr) (c : Nat) (its : List Itt) (n i : Nat) (hO : OxS w go gt gl ge vs A c its) (hE : ES w ge 32) (hl : its.length ≤ 1000) (hn : n < 18446744073709551616) (hi : i < 18446744073709551616) (hT : Tabs w) :
    Gives Tryd.prog 14 #[.pointer (some ⟨go, 0, none⟩), .int .u64 (n : Int), .int .u64 (i : Int)] w fun u w1 => u = .tuple #[.agg (prfC (mkQ 32 (lsO its) n i)).toArray, .int .i64 (mkE (lsO its) n i)] ∧ Keep nof w w1 := by
  have M0 := Mem.start w nof
  have hqo := mkQ_ok (lsO32 its) 32 n i
  refine Gives.enter (n := 17) Tryd.func14 rfl Tryd.ntmps14 rfl (env := [(0, .pointer (some ⟨go, 0, none⟩)), (1, .int .u64 (n : Int)), (2, .int .u64 (i : Int))]) rfl ?_
  refine WC.seq ?_
  refine WC.region ?_
  refine WL.ac rfl rfl rfl (Ac.alloc M0 (l := prfC prf0) (by kernel_rfl)) ?_; rintro v1 w1 ⟨gr, rfl, hg1, K1, M1⟩
  refine WL.ex rfl rfl rfl (Ex.asg rfl) ?_
  refine WL.nil ?_
  refine WX.next (?_)
  refine WC.seq ?_
  refine WC.region ?_
  refine WL.ex rfl rfl rfl (Ex.mv rfl) ?_
  refine WL.ex rfl rfl rfl (Ex.nilc rfl) ?_
  refine WL.ex rfl rfl rfl (Ex.fa fl93_1 rfl) ?_
  refine WL.ex rfl rfl rfl (Ex.load ty68 rfl (hO.keep M1.keep).c1) ?_
  refine WL.ex rfl rfl rfl (Ex.mv rfl) ?_
  refine WL.ex rfl rfl rfl (Ex.mv rfl) ?_
  refine WL.ac rfl rfl rfl (Ac.call rfl Tryd.func41 nm41 rfl (pMake_ok w1 gt gl ge 32 vs (lsO its) n i (hO.keep M1.keep).tr (hE.keep M1.keep) (lsO32 its) (by rw [lsO_len]; omega) hn hi (by decide) (hT.keep M1.keep))) ?_; rintro v9 w9 ⟨rfl, K9⟩
  have M9 := M1.step K9
  refine WL.ex rfl rfl rfl (Ex.ext rfl rfl) ?_
  refine WL.ex rfl rfl rfl (Ex.ext rfl rfl) ?_
  refine WL.ac0 rfl rfl (Ac.stA M9 ty34 rfl rfl rfl (prf_len (by first | assumption | exact prf0_ok)) (prf_one) (i := 0) rfl (by first | (rw [prf_len (by first | assumption | exact prf0_ok), prf_len (by first | assumption | exact prf0_ok)]; decide) | (rw [prf_len (by first | assumption | exact prf0_ok)]; decide) | rw [prf_len (by first | assumption | exact prf0_ok)])) ?_; rintro v12 w12 ⟨K12, M12⟩
  try dsimp only [List.set] at M12
  rw [splice_all _ _ (by first | rw [prf_len (by first | assumption | exact prf0_ok), prf_len (by first | assumption | exact prf0_ok)] | rw [prf_len (by first | assumption | exact prf0_ok)])] at M12
  refine WL.ex rfl rfl rfl (Ex.asg rfl) ?_
  refine WL.nil ?_
  refine WX.next (?_)
  refine WC.ret ?_
  refine WX.retn rfl (.cell rfl (run_loadVarA ty34 (prf_len (by first | assumption | exact prf0_ok)) (M12.rdw (i := 0) rfl)) (.tmp rfl .nil)) rfl ?_
  exact ⟨rfl, M12.keep⟩

/- slices.Clone[[]sponsion/api.Intent,sponsion/api.Intent] -/
theorem cloneI_ok (w : World) (A : Option Addr) (c : Nat) (es : List Itt) (hr : Rd w A (es.flatMap ittC)) (hok : ∀ t ∈ es, IttOk t) (hb : es.length ≤ 1000000) :
    Gives Tryd.prog 48 #[.slice A es.length c] w fun u w1 => New w w1 (row u 50 7 es.length (es.flatMap ittC)) := by
  have M0 := Mem.start w nof
  refine Gives.enter (n := 8) Tryd.func48 rfl Tryd.ntmps48 rfl (env := [(0, .slice A es.length c)]) rfl ?_
  refine WC.seq ?_
  refine WC.region ?_
  refine WL.ex rfl rfl rfl (Ex.asg rfl) ?_
  refine WL.nil ?_
  refine WX.next (?_)
  refine WC.seq ?_
  refine WC.seq ?_
  refine WC.region ?_
  refine WL.ex rfl rfl rfl (Ex.mv rfl) ?_
  refine WL.ex rfl rfl rfl (Ex.eqN Tryd.underlying27 rfl) ?_
  refine WL.nil ?_
  refine WX.next (?_)
  refine WC.cond rfl (fun hc => ?_) (fun hc => ?_)
  · have hl : es = [] := by
      cases es with
      | nil => rfl
      | cons b r => obtain ⟨b0, o0, h1⟩ := hr.flat_plain (a := b) (by simp) (by rw [itt_len (hok b (by simp))]; omega); subst h1; cases hc
    subst hl
    refine WC.seq ?_
    refine WC.region ?_
    refine WL.ex rfl rfl rfl (Ex.asg rfl) ?_
    refine WL.nil ?_
    refine WX.next (?_)
    refine WC.ret ?_
    refine WX.ret_then (?_)
    refine WX.ret1 rfl rfl ?_
    first | exact M0.toNew | exact (M0.free (r := row (.slice none 0 0) 50 7 0 []) (row_nil _ _ _) rfl).toNew
  · skip
    refine WC.skip ?_
    refine WX.next (?_)
    refine WC.seq ?_
    refine WC.region ?_
    refine WL.ac rfl rfl rfl (Ac.bs0 M0 Tryd.underlying27 sz50) ?_; rintro v5 w5 ⟨g5, rfl, hg5, K5, M5⟩
    refine WL.ex rfl rfl rfl (Ex.mv rfl) ?_
    refine WL.ac rfl rfl rfl (Ac.app M5 el27 rfl rfl (i := 0) rfl (its_len hok) (M5.rd hr) (its_one _) (by omega) (by unfold maxLen; omega)) ?_; rintro v7 w7 ⟨K7, M7⟩
    try dsimp only [List.set] at M7
    simp only [Nat.zero_add, List.nil_append] at M7
    refine WL.ex rfl rfl rfl (Ex.asg rfl) ?_
    refine WL.nil ?_
    refine WX.next (?_)
    refine WC.ret ?_
    refine WX.ret1 rfl rfl ?_
    first | exact M7.toNew | exact (M7.free (r := row (.slice none 0 0) 50 7 0 []) (row_nil _ _ _) rfl).toNew

/- (*sponsion/outbox.Outbox).Cut -/
theorem oCut_ok (w : World) (go gt gl ge : Nat) (vs : List Value) (A : Option Addr) (c : Nat) (its : List Itt) (n : Nat) (hR : (oR go gt gl ge vs A c its).sat w) (hok : ∀ t ∈ its, IttOk t) (hl : its.length ≤ 1000) (hn : n < 18446744073709551616) :
    Gives Tryd.prog 28 #[.pointer (some ⟨go, 0, none⟩), .int .u64 (n : Int)] w fun u w1 => ∃ vs' A' c', u = .bool (decide (n ≤ its.length)) ∧ Turn w w1 (oR go gt gl ge vs A c its) (oR go gt gl ge vs' A' c' (its.take n)) := by
  obtain ⟨FF, hFF⟩ : ∃ FF : Nat → Prop, FF = (fun b => b ∈ (oR go gt gl ge vs A c its).fp) := ⟨_, rfl⟩
  have M0 : Mem w w FF [oR go gt gl ge vs A c its] := by rw [hFF]; exact Mem.begin hR
  replace M0 := M0.openS.openS
  refine Gives.enter (n := 22) Tryd.func28 rfl Tryd.ntmps28 rfl (env := [(0, .pointer (some ⟨go, 0, none⟩)), (1, .int .u64 (n : Int))]) rfl ?_
  refine WC.seq ?_
  refine WC.region ?_
  refine WL.ex rfl rfl rfl (Ex.asg rfl) ?_
  refine WL.nil ?_
  refine WX.next (?_)
  refine WC.seq ?_
  refine WC.seq ?_
  refine WC.region ?_
  refine WL.ex rfl rfl rfl (Ex.mv rfl) ?_
  refine WL.ex rfl rfl rfl (Ex.nilc rfl) ?_
  refine WL.ex rfl rfl rfl (Ex.fa fl93_1 rfl) ?_
  refine WL.ex rfl rfl rfl (Ex.load ty68 rfl (M0.cell (i := 0) (v := .pointer (some ⟨gt, 0, none⟩)) rfl rfl)) ?_
  refine WL.ex rfl rfl rfl (Ex.mv rfl) ?_
  refine WL.ac rfl rfl rfl (Ac.call rfl Tryd.func58 nm58 rfl (tCut_ok w gt gl ge 32 vs (lsO its) n (M0.get (i := 2) rfl) (lsO32 its) hn (by decide))) ?_; rintro v7 w7 ⟨vs1, rfl, T7⟩
  rw [lsO_len, show (lsO its).take n = lsO (its.take n) by simp [List.map_take]] at *
  have M7 := M0.turned (i := 2) rfl T7
  try dsimp only [List.set] at M7
  by_cases hc : n ≤ its.length
  · rw [decide_eq_true hc]
    have htl : (its.take n).length = n := by rw [List.length_take]; omega
    have hcap := own_cap (M7.get (i := 1) rfl)
    refine WL.ex rfl rfl rfl (Ex.not rfl) ?_
    refine WL.nil ?_
    refine WX.next (?_)
    refine WC.no rfl ?_
    refine WC.skip ?_
    refine WX.next (?_)
    refine WC.seq ?_
    refine WC.region ?_
    refine WL.ex rfl rfl rfl (Ex.mv rfl) ?_
    refine WL.ex rfl rfl rfl (Ex.mv rfl) ?_
    refine WL.ex rfl rfl rfl (Ex.nilc rfl) ?_
    refine WL.ex rfl rfl rfl (Ex.fa fl93_0 rfl) ?_
    refine WL.ex rfl rfl rfl (Ex.load ty27 rfl (M7.cell (i := 0) (v := .slice A its.length c) rfl rfl)) ?_
    refine WL.ex rfl rfl rfl (Ex.mv rfl) ?_
    refine WL.ex rfl rfl rfl (Ex.slh Tryd.underlying27 sz50 rfl rfl (Int.natCast_nonneg _) (by omega)) ?_
    rw [Int.toNat_natCast]
    refine WL.ac rfl rfl rfl (Ac.call rfl Tryd.func48 nm48 rfl ((by
      have hx := cloneI_ok w7 A c (its.take n) (by rw [its_take hok]; exact (M7.rdr (i := 1) rfl).take _) (fun t ht => hok t (List.mem_of_mem_take ht)) (by rw [htl]; omega)
      rw [htl] at hx
      exact hx))) ?_; rintro v16 w16 N16
    have M16 := M7.new N16
    obtain ⟨A2, c2, rfl⟩ := own_slice (M16.get (i := 0) rfl)
    refine WL.ex rfl rfl rfl (Ex.nilc rfl) ?_
    refine WL.ex rfl rfl rfl (Ex.fa fl93_0 rfl) ?_
    refine WL.ac0 rfl rfl (Ac.st M16 ty27 rfl rfl rfl (i := 1) rfl (by simp)) ?_; rintro v19 w19 ⟨K19, M19⟩
    try dsimp only [List.set] at M19
    refine WL.nil ?_
    refine WX.next (?_)
    refine WC.seq ?_
    refine WC.region ?_
    refine WL.ex rfl rfl rfl (Ex.asg rfl) ?_
    refine WL.nil ?_
    refine WX.next (?_)
    refine WC.ret ?_
    refine WX.ret1 rfl rfl ?_
    subst hFF
    refine ⟨vs1, A2, c2, rfl, ?_⟩
    have Mf : Mem w w19 (fun b => b ∈ (oR go gt gl ge vs A c its).fp) [oB go gt (.slice A2 n c2), row (.slice A2 n c2) 50 7 n ((its.take n).flatMap ittC), treeR gt gl ge 32 vs1 (lvOf dNode e0 32 (lsO (its.take n)))] := (Mem.pick M19 [1, 0, 3] (by decide) rfl)
    have Mg := Mem.closeS (Mem.closeS Mf)
    rw [show oR go gt gl ge vs1 A2 c2 (its.take n) = sep (sep (oB go gt (.slice A2 n c2)) (row (.slice A2 n c2) 50 7 n ((its.take n).flatMap ittC))) (treeR gt gl ge 32 vs1 (lvOf dNode e0 32 (lsO (its.take n)))) by unfold oR oV; rw [htl]]
    exact Mem.toTurn Mg
  · rw [decide_eq_false hc]
    have htl : its.take n = its := List.take_of_length_le (by omega)
    rw [htl] at M7
    refine WL.ex rfl rfl rfl (Ex.not rfl) ?_
    refine WL.nil ?_
    refine WX.next (?_)
    refine WC.yes rfl ?_
    refine WC.seq ?_
    refine WC.region ?_
    refine WL.ex rfl rfl rfl (Ex.asg rfl) ?_
    refine WL.nil ?_
    refine WX.next (?_)
    refine WC.ret ?_
    refine WX.ret_then (?_)
    refine WX.ret1 rfl rfl ?_
    subst hFF
    rw [htl]
    exact ⟨_, _, _, rfl, Mem.toTurn (Mem.closeS (Mem.closeS M7))⟩

/- sponsion/outbox.New -/
theorem oNew_ok (w : World) (hT : Tabs w) :
    Gives Tryd.prog 11 #[] w fun u w1 => ∃ go gt gl ge, u = .pointer (some ⟨go, 0, none⟩) ∧ New w w1 (sep (oR go gt gl ge (nilS 33) none 0 []) (blk ge (fl (emps dNode e0 (32 + 1))) 31)) := by
  have M0 := Mem.start w nof
  refine Gives.enter (n := 4) Tryd.func11 rfl Tryd.ntmps11 rfl (env := []) rfl ?_
  refine WC.seq ?_
  refine WC.region ?_
  refine WL.ex rfl rfl rfl (Ex.asg rfl) ?_
  refine WL.nil ?_
  refine WX.next (?_)
  refine WC.seq ?_
  refine WC.region ?_
  refine WL.ac rfl rfl rfl (Ac.call rfl Tryd.func42 nm42 rfl (tNew_ok w 32 (by decide) (hT.keep M0.keep))) ?_; rintro v2 w2 ⟨gt, gl, ge, rfl, N2⟩
  have M2 := (M0.new N2).openS
  refine WL.ex rfl rfl rfl (Ex.bldS bd93 (parts := [(1, .tmp 1)]) [[.pointer (some ⟨gt, 0, none⟩)]] (l := [.slice none 0 0, .pointer (some ⟨gt, 0, none⟩)]) rfl rfl rfl ⟨1, 1, rfl, rfl, rfl, by simp, rfl⟩) ?_
  refine WL.ac rfl rfl rfl (Ac.box (M2.free (r := row (.slice none 0 0) 50 7 0 []) (row_nil _ _ _) rfl) (l := [.slice none 0 0, .pointer (some ⟨gt, 0, none⟩)]) rfl rfl) ?_; rintro v4 w4 ⟨go, rfl, hg4, K4, M4⟩
  refine WL.ex rfl rfl rfl (Ex.asg rfl) ?_
  refine WL.nil ?_
  refine WX.next (?_)
  refine WC.ret ?_
  refine WX.ret1 rfl rfl ?_
  have Mf : Mem w w4 nof [oB go gt (.slice none 0 0), oV none 0 [], treeR gt gl ge 32 (nilS 33) (lvOf dNode e0 32 (lsO [])), blk ge (fl (emps dNode e0 (32 + 1))) 31] := (Mem.pick M4 [0, 1, 3, 2] (by decide) rfl)
  exact ⟨go, gt, gl, ge, rfl, Mem.toNew (Mem.closeS (Mem.closeS (Mem.closeS Mf)))⟩

end Go.Proofs.YtchmjpdkonfifaaDoor
