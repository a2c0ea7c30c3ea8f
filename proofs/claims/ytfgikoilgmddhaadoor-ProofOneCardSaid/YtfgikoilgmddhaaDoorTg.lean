/- Walks, written by gen.py off the translation's own print: each says what the Go function comes to. -/
import Derived.Test.YtfgikoilgmddhaaDoorTe
set_option linter.unusedVariables false
set_option linter.unusedSimpArgs false
namespace Go.Proofs.YtfgikoilgmddhaaDoor
open Go.Sx Go.RowKit
attribute [local irreducible] Ac Ex WL WC WX WP Gives sha

/-- A new tree, and the sums of the empty trees that it keeps. -/
def newR (g gl ge d : Nat) (vs : List Value) (lv : List Hs) : Res := sep (blk ge (fl (emps dNode e0 (d + 1))) 28) (treeR g gl ge d vs lv)
def nilS (m : Nat) : List Value := List.replicate m (.slice none 0 0)
theorem ES.of {w : World} {ge d : Nat} (h : (blk ge (fl (emps dNode e0 (d + 1))) 28).sat w) : ES w ge d := blk_rdt (o := 0) (m := (fl (emps dNode e0 (d + 1))).length) h (by rw [List.drop_zero, List.take_length])
theorem fillE_len (m i : Nat) : ∀ a ∈ fillTo m i (emp dNode e0) (List.replicate 32 0), H32 a := by
  intro a ha
  obtain ⟨j, _, rfl⟩ := List.mem_map.1 ha
  split
  · exact emp32 j
  · exact h32_0
theorem fillE_get {m i j : Nat} (h : j < i) (hi : i ≤ m) : (fillTo m i (emp dNode e0) (List.replicate 32 0))[j]? = some (emp dNode e0 j) := by
  rw [fillTo, List.getElem?_map, List.getElem?_range (by omega)]
  simp [h]
theorem e0_empty : emptyH (lvl 0) = e0 := rfl

/- sponsion/tree.New -/
theorem tNew_ok (w : World) (d : Nat) (hd : d ≤ 32) (hT : Tabs w) :
    Gives Tryd.prog 12 #[.int .i64 (d : Int)] w fun u w1 => ∃ g gl ge, u = .pointer (some ⟨g, 0, none⟩) ∧ New w w1 (newR g gl ge d (nilS (d + 1)) (lvOf dNode e0 d [])) := by
  have M0 := Mem.start w nof
  have ei32 := emp32
  refine Gives.enter (n := 61) Tryd.func12 rfl Tryd.ntmps12 rfl (env := [(0, .int .i64 (d : Int))]) rfl ?_
  refine WC.seq ?_
  refine WC.region ?_
  refine WL.ex rfl rfl rfl (Ex.asg rfl) ?_
  refine WL.nil ?_
  refine WX.next (?_)
  refine WC.seq ?_
  refine WC.seq ?_
  refine WC.region ?_
  refine WL.ex rfl rfl rfl (Ex.mv rfl) ?_
  refine WL.ex rfl rfl rfl (Ex.lss rfl rfl) ?_
  refine WL.ex rfl rfl rfl (Ex.mv rfl) ?_
  rw [decide_eq_false (show ¬ (d : Int) < 0 by omega)]
  refine WL.yes rfl rfl rfl rfl ?_
  refine WL.ex rfl rfl rfl (Ex.mv rfl) ?_
  refine WL.yes rfl rfl rfl rfl ?_
  refine WL.ex rfl rfl rfl (Ex.gtr rfl rfl) ?_
  refine WL.ex rfl rfl rfl (Ex.pickF rfl rfl) ?_
  refine WL.nil ?_
  refine WX.next (?_)
  
  refine WC.no (by first | rfl | exact congrArg some (congrArg Value.bool (decide_eq_false (by omega)))) ?_
  refine WC.skip ?_
  refine WX.next (?_)
  refine WC.seq ?_
  refine WC.draw (Keep nof w.drew) [2, 5, 7] (.one 0 0 (.one 1 0 (.one 3 0 (.one 4 0 (.two 2 (.one 5 2 (.one 6 0 (.one 7 2 (.one 8 0 .nil)))) 5 (.one 2 2 (.one 6 0 (.one 7 2 (.one 8 0 .nil))))))))) mixed (by kernel_rfl) (by kernel_rfl) (by kernel_rfl) (HQ.then_ HQ.body) ?_
  obtain ⟨w8, hw8⟩ : ∃ v, v = w.drew := ⟨_, rfl⟩
  have D8 : Keep nof w w8 := by rw [hw8]; exact Keep.drew _ _
  have M8 := M0.step D8
  rw [← hw8]; clear hw8
  refine WP.p rfl rfl rfl rfl (fun _ => Ex.mv rfl) ?_
  refine WP.p rfl rfl rfl rfl (fun _ => Ex.add rfl rfl (i64w _ (by omega) (by omega))) ?_
  refine WP.p rfl rfl rfl rfl (fun _ => Ex.mv rfl) ?_
  refine WP.p rfl rfl rfl rfl (fun _ => Ex.add rfl rfl (i64w _ (by omega) (by omega))) ?_
  refine WP.two ?_ ?_
  · skip
    refine WP.a rfl rfl rfl rfl (Ac.mk M8 el69 rfl rfl (m := d + 1) (by omega) (by omega) (by omega) (by unfold maxLen; omega) (zs := [.slice none 0 0]) (by kernel_rfl)) ?_; rintro v13 w13 ⟨gl, rfl, hg13, K13, M13⟩; refine .inl ⟨rfl, Keep nof w13, ?_⟩
    rw [Nat.mul_one, made1] at M13
    replace M13 := M13.rblk (i := 0) rfl
    try dsimp only [List.set] at M13
    refine WP.a rfl rfl rfl rfl (Ac.mk M13 el22 rfl rfl (m := d + 1) (by omega) (by omega) (by omega) (by unfold maxLen; omega) (zs := bytesV (List.replicate 32 0)) (by kernel_rfl)) ?_; rintro v14 w14 ⟨ge, rfl, hg14, K14, M14⟩; refine .inl ⟨rfl, Keep nof w14, ?_⟩
    rw [made32] at M14
    replace M14 := M14.rblk (i := 0) rfl
    try dsimp only [List.set] at M14
    refine WP.p rfl rfl rfl rfl (fun _ => Ex.bldS bd71 (parts := [(0, .tmp 13), (1, .tmp 16)]) [[(.slice (some ⟨gl, 0, none⟩) (d + 1) (d + 1))], [.slice (some ⟨ge, 0, none⟩) (d + 1) (d + 1)]] (l := tC gl ge d) rfl rfl rfl ⟨0, 1, rfl, rfl, rfl, by simp, 1, 1, rfl, rfl, rfl, by simp [splice], rfl⟩) ?_
    refine WP.a rfl rfl rfl rfl (Ac.box M14 (l := tC gl ge d) rfl rfl) ?_; rintro v16 w16 ⟨g, rfl, hg16, K16, M16⟩; refine .inl ⟨rfl, Keep nof w16, ?_⟩
    refine WP.p rfl rfl rfl rfl (fun _ => Ex.asg rfl) ?_
    refine WP.nil ?_
    refine WX.next (?_)
    refine WC.seq ?_
    refine WC.seq ?_
    refine WC.region ?_
    refine WL.ex rfl rfl rfl (Ex.mv rfl) ?_
    refine WL.ex rfl rfl rfl (Ex.nilc rfl) ?_
    refine WL.ex rfl rfl rfl (Ex.fa fl71_1 rfl) ?_
    refine WL.ex rfl rfl rfl (Ex.load ty22 rfl (M16.cell (i := 0) (v := (.slice (some ⟨ge, 0, none⟩) (d + 1) (d + 1))) rfl rfl)) ?_
    refine WL.ex rfl rfl rfl (Ex.len Tryd.underlying22 rfl) ?_
    refine WL.ex rfl rfl rfl (Ex.mv rfl) ?_
    refine WL.nil ?_
    refine WX.next (?_)
    refine WC.block ?_
    refine WC.loop (σ := Nat) (fun i => [(3, .pointer (some ⟨g, 0, none⟩)), (23, .int .i64 ((d + 1 : Nat) : Int)), (24, .int .i64 (i : Int))]) (fun i wr => i ≤ d + 1 ∧ Mem w wr nof [blk g (tC gl ge d) 71, blk gl (nilS (d + 1)) 22, blk ge (fl (fillTo (d + 1) i (emp dNode e0) (List.replicate 32 0))) 28]) (fun i => d + 1 - i) (0) ?_ (.cons rfl (.cons rfl (.cons rfl (.nil)))) ?_
    · refine ⟨by omega, ?_⟩
      rw [fillTo_zero]
      exact (Mem.pick M16 [0, 2, 1] (by decide) rfl)
    rintro i w24 ⟨hi, M24⟩
    refine WC.seq ?_
    refine WC.region ?_
    refine WL.ex rfl rfl rfl (Ex.lss rfl rfl) ?_
    refine WL.nil ?_
    refine WX.next (?_)
    refine WC.seq ?_
    refine WC.cond_dec rfl (fun hc25 => ?_) (fun hc25 => ?_)
    · skip
      refine WC.skip ?_
      refine WX.next (?_)
      refine WC.seq ?_
      refine WC.block ?_
      refine WC.seq ?_
      refine WC.region ?_
      refine WL.ex rfl rfl rfl (Ex.mv rfl) ?_
      refine WL.ex rfl rfl rfl (Ex.asg rfl) ?_
      refine WL.nil ?_
      refine WX.next (?_)
      refine WC.seq ?_
      refine WC.seq ?_
      refine WC.region ?_
      refine WL.ex rfl rfl rfl (Ex.mv rfl) ?_
      refine WL.ex rfl rfl rfl (Ex.eqI rfl rfl) ?_
      refine WL.nil ?_
      refine WX.next (?_)
      refine WC.cond_dec rfl (fun h28 => ?_) (fun h28 => ?_)
      · have hi0 : i = 0 := by omega
        refine WC.seq ?_
        refine WC.draw (Keep nof w24.drew) [7] (.one 0 0 (.one 1 0 (.one 2 0 (.one 4 0 (.one 3 1 (.one 5 2 (.one 6 0 (.one 7 2 .nil)))))))) mixed (by kernel_rfl) (by kernel_rfl) (by kernel_rfl) (HQ.then_ (HQ.then_ (HQ.block (HQ.then_ (HQ.then_ (HQ.block (HQ.then_ HQ.body))))))) ?_
        obtain ⟨w30, hw30⟩ : ∃ v, v = w24.drew := ⟨_, rfl⟩
        have D30 : Keep nof w24 w30 := by rw [hw30]; exact Keep.drew _ _
        have M30 := M24.step D30
        rw [← hw30]; clear hw30
        refine WP.p rfl rfl rfl rfl (fun _ => Ex.mv rfl) ?_
        refine WP.p rfl rfl rfl rfl (fun _ => Ex.nilc rfl) ?_
        refine WP.p rfl rfl rfl rfl (fun _ => Ex.fa fl71_1 rfl) ?_
        refine WP.p rfl rfl rfl rfl (fun _ => Ex.mv rfl) ?_
        refine WP.q (Keep.refl _ _) rfl rfl rfl rfl (fun w' hS => Ex.load ty22 rfl (hS.cell (M30.cell (i := 0) (v := (.slice (some ⟨ge, 0, none⟩) (d + 1) (d + 1))) rfl rfl) (fun f => f))) ?_
        refine WP.as rfl rfl rfl rfl (Ac.call rfl Tryd.func34 nm34 rfl (empty_ok w30 0 (by decide) (hT.keep M30.keep))) ?_; rintro v36 w36 ⟨rfl, K36⟩
        refine ⟨Keep nof w36, fun u h => K36.trans h, Keep.refl _ _, ?_⟩
        rw [e0_empty, show bytesV e0 = bytesV (emp dNode e0 i) by rw [hi0]; rfl]
        have M36 := M30.step K36
        refine WP.p rfl rfl rfl rfl (fun _ => Ex.ia Tryd.underlying22 sz28 rfl rfl ⟨by omega, by omega⟩) ?_
        refine WP.a0 rfl rfl rfl (Ac.stA M36 ty28 rfl rfl (vs := bytesV (emp dNode e0 i)) rfl (h32_len (emp32 i)) (bytesV_one _) (i := 2) rfl (by rw [h32_len (emp32 i), fl_len (fillE_len _ _)]; simp; omega)) ?_; rintro v38 w38 ⟨K38, M38⟩; refine .inl ⟨rfl, Keep nof w38, ?_⟩
        try dsimp only [List.set] at M38
        rw [fl, flat_set (fun a ha => h32_len (fillE_len (d + 1) i a ha)) (h32_len (emp32 i)) (i := i) (by simp; omega) (by simp)] at M38
        rw [show (fillTo (d + 1) i (emp dNode e0) (List.replicate 32 0)).set i (emp dNode e0 i) = fillTo (d + 1) (i + 1) (emp dNode e0) (List.replicate 32 0) from fillTo_set (d + 1) i (emp dNode e0) _] at M38
        refine WP.nil ?_
        refine WX.next (?_)
        refine WC.exit ?_
        refine WX.exit_then (WX.exit_block (WX.next (?_)))
        refine WC.region ?_
        refine WL.ex rfl rfl rfl (Ex.add rfl rfl (i64w _ (by omega) (by omega))) ?_
        refine WL.ex rfl rfl rfl (Ex.mv rfl) ?_
        refine WL.nil ?_
        refine WX.again (i + 1) ?_ ?_ (.cons rfl (.cons rfl (.cons rfl (.nil))))
        · (try dsimp only); omega
        · exact ⟨by omega, M38⟩
      · have hi0 : i ≠ 0 := fun h => h28 (by omega)
        have hp32 := emp32 (i - 1)
        refine WC.skip ?_
        refine WX.next (?_)
        refine WC.draw (Keep nof w24.drew) [23] (.one 0 0 (.one 1 0 (.one 2 0 (.one 4 0 (.one 5 0 (.one 6 0 (.one 7 0 (.one 9 0 (.one 10 0 (.one 13 0 (.one 14 0 (.one 15 0 (.one 17 0 (.one 18 0 (.one 3 1 (.one 8 1 (.one 11 0 (.one 12 1 (.one 16 1 (.one 19 0 (.one 20 1 (.one 21 2 (.one 22 0 (.one 23 2 .nil)))))))))))))))))))))))) mixed (by kernel_rfl) (by kernel_rfl) (by kernel_rfl) (HQ.block (HQ.then_ (HQ.then_ (HQ.block (HQ.then_ HQ.body))))) ?_
        obtain ⟨w41, hw41⟩ : ∃ v, v = w24.drew := ⟨_, rfl⟩
        have D41 : Keep nof w24 w41 := by rw [hw41]; exact Keep.drew _ _
        have M41 := M24.step D41
        rw [← hw41]; clear hw41
        refine WP.p rfl rfl rfl rfl (fun _ => Ex.mv rfl) ?_
        refine WP.p rfl rfl rfl rfl (fun _ => Ex.nilc rfl) ?_
        refine WP.p rfl rfl rfl rfl (fun _ => Ex.fa fl71_1 rfl) ?_
        refine WP.p rfl rfl rfl rfl (fun _ => Ex.mv rfl) ?_
        refine WP.p rfl rfl rfl rfl (fun _ => Ex.mv rfl) ?_
        refine WP.p rfl rfl rfl rfl (fun _ => Ex.nilc rfl) ?_
        refine WP.p rfl rfl rfl rfl (fun _ => Ex.fa fl71_1 rfl) ?_
        refine WP.p rfl rfl rfl rfl (fun _ => Ex.mv rfl) ?_
        refine WP.p rfl rfl rfl rfl (fun _ => Ex.sub rfl rfl (c := ((i - 1 : Nat) : Int)) (by rw [i64w _ (by omega) (by omega)]; omega)) ?_
        refine WP.p rfl rfl rfl rfl (fun _ => Ex.mv rfl) ?_
        refine WP.p rfl rfl rfl rfl (fun _ => Ex.nilc rfl) ?_
        refine WP.p rfl rfl rfl rfl (fun _ => Ex.fa fl71_1 rfl) ?_
        refine WP.p rfl rfl rfl rfl (fun _ => Ex.mv rfl) ?_
        refine WP.p rfl rfl rfl rfl (fun _ => Ex.sub rfl rfl (c := ((i - 1 : Nat) : Int)) (by rw [i64w _ (by omega) (by omega)]; omega)) ?_
        refine WP.q (Keep.refl _ _) rfl rfl rfl rfl (fun w' hS => Ex.load ty22 rfl (hS.cell (M41.cell (i := 0) (v := (.slice (some ⟨ge, 0, none⟩) (d + 1) (d + 1))) rfl rfl) (fun f => f))) ?_
        refine WP.q (Keep.refl _ _) rfl rfl rfl rfl (fun w' hS => Ex.load ty22 rfl (hS.cell (M41.cell (i := 0) (v := (.slice (some ⟨ge, 0, none⟩) (d + 1) (d + 1))) rfl rfl) (fun f => f))) ?_
        refine WP.p rfl rfl rfl rfl (fun _ => Ex.ia Tryd.underlying22 sz28 rfl rfl ⟨by omega, by omega⟩) ?_
        refine WP.q (Keep.refl _ _) rfl rfl rfl rfl (fun w' hS => Ex.loadA ty28 rfl (l := bytesV (emp dNode e0 (i - 1))) (h32_len hp32) ((M41.rdt (i := 2) rfl (flat_at (fun a ha => h32_len (fillE_len _ _ a ha)) (fillE_get (j := i - 1) (by omega) (by omega)) (by simp))).keep0 hS)) ?_
        refine WP.q (Keep.refl _ _) rfl rfl rfl rfl (fun w' hS => Ex.load ty22 rfl (hS.cell (M41.cell (i := 0) (v := (.slice (some ⟨ge, 0, none⟩) (d + 1) (d + 1))) rfl rfl) (fun f => f))) ?_
        refine WP.p rfl rfl rfl rfl (fun _ => Ex.ia Tryd.underlying22 sz28 rfl rfl ⟨by omega, by omega⟩) ?_
        refine WP.q (Keep.refl _ _) rfl rfl rfl rfl (fun w' hS => Ex.loadA ty28 rfl (l := bytesV (emp dNode e0 (i - 1))) (h32_len hp32) ((M41.rdt (i := 2) rfl (flat_at (fun a ha => h32_len (fillE_len _ _ a ha)) (fillE_get (j := i - 1) (by omega) (by omega)) (by simp))).keep0 hS)) ?_
        refine WP.as rfl rfl rfl rfl (Ac.call rfl Tryd.func30 nm30 rfl (node_ok w41 _ _ hp32 hp32 (hT.keep M41.keep))) ?_; rintro v63 w63 ⟨rfl, K63⟩
        refine ⟨Keep nof w63, fun u h => K63.trans h, Keep.refl _ _, ?_⟩
        rw [show dNode (emp dNode e0 (i - 1)) (emp dNode e0 (i - 1)) = emp dNode e0 i by obtain ⟨m, rfl⟩ : ∃ m, i = m + 1 := ⟨i - 1, by omega⟩; rfl]
        have M63 := M41.step K63
        refine WP.p rfl rfl rfl rfl (fun _ => Ex.ia Tryd.underlying22 sz28 rfl rfl ⟨by omega, by omega⟩) ?_
        refine WP.a0 rfl rfl rfl (Ac.stA M63 ty28 rfl rfl (vs := bytesV (emp dNode e0 i)) rfl (h32_len (emp32 i)) (bytesV_one _) (i := 2) rfl (by rw [h32_len (emp32 i), fl_len (fillE_len _ _)]; simp; omega)) ?_; rintro v65 w65 ⟨K65, M65⟩; refine .inl ⟨rfl, Keep nof w65, ?_⟩
        try dsimp only [List.set] at M65
        rw [fl, flat_set (fun a ha => h32_len (fillE_len (d + 1) i a ha)) (h32_len (emp32 i)) (i := i) (by simp; omega) (by simp)] at M65
        rw [show (fillTo (d + 1) i (emp dNode e0) (List.replicate 32 0)).set i (emp dNode e0 i) = fillTo (d + 1) (i + 1) (emp dNode e0) (List.replicate 32 0) from fillTo_set (d + 1) i (emp dNode e0) _] at M65
        refine WP.nil ?_
        refine WX.normal_block (WX.next (?_))
        refine WC.region ?_
        refine WL.ex rfl rfl rfl (Ex.add rfl rfl (i64w _ (by omega) (by omega))) ?_
        refine WL.ex rfl rfl rfl (Ex.mv rfl) ?_
        refine WL.nil ?_
        refine WX.again (i + 1) ?_ ?_ (.cons rfl (.cons rfl (.cons rfl (.nil))))
        · (try dsimp only); omega
        · exact ⟨by omega, M65⟩
    · obtain rfl : i = d + 1 := by omega
      rw [fillTo_full (d + 1) (d + 1) (Nat.le_refl _)] at M24
      refine WC.exit ?_
      refine WX.exit_then (WX.exit_then (WX.exit_block (WX.next (?_))))
      refine WC.seq ?_
      refine WC.region ?_
      refine WL.ex rfl rfl rfl (Ex.mv rfl) ?_
      refine WL.ex rfl rfl rfl (Ex.asg rfl) ?_
      refine WL.nil ?_
      refine WX.next (?_)
      refine WC.ret ?_
      refine WX.ret1 rfl rfl ?_
      have Mv := M24.free (r := levR (nilS (d + 1)) (lvOf dNode e0 d []) 28) (by rw [lvOf_nil]; exact lev_none _ _ _) (levn_fp _ _ _)
      have Ma : Mem w w24 nof [blk g (tC gl ge d) 71, blk gl (nilS (d + 1)) 22, levR (nilS (d + 1)) (lvOf dNode e0 d []) 28, blk ge (fl (emps dNode e0 (d + 1))) 28] := Mv.pick [1, 2, 0, 3] (by decide) rfl
      have Mb := Ma.closeS.closeS
      have Mc : Mem w w24 nof [blk ge (fl (emps dNode e0 (d + 1))) 28, treeR g gl ge d (nilS (d + 1)) (lvOf dNode e0 d [])] := Mb.pick [1, 0] (by decide) rfl
      exact ⟨g, gl, ge, rfl, Mc.closeS.toNew⟩
  · skip
    refine WP.a rfl rfl rfl rfl (Ac.mk M8 el22 rfl rfl (m := d + 1) (by omega) (by omega) (by omega) (by unfold maxLen; omega) (zs := bytesV (List.replicate 32 0)) (by kernel_rfl)) ?_; rintro v70 w70 ⟨ge, rfl, hg70, K70, M70⟩; refine .inl ⟨rfl, Keep nof w70, ?_⟩
    rw [made32] at M70
    replace M70 := M70.rblk (i := 0) rfl
    try dsimp only [List.set] at M70
    refine WP.a rfl rfl rfl rfl (Ac.mk M70 el69 rfl rfl (m := d + 1) (by omega) (by omega) (by omega) (by unfold maxLen; omega) (zs := [.slice none 0 0]) (by kernel_rfl)) ?_; rintro v71 w71 ⟨gl, rfl, hg71, K71, M71⟩; refine .inl ⟨rfl, Keep nof w71, ?_⟩
    rw [Nat.mul_one, made1] at M71
    replace M71 := M71.rblk (i := 0) rfl
    try dsimp only [List.set] at M71
    refine WP.p rfl rfl rfl rfl (fun _ => Ex.bldS bd71 (parts := [(0, .tmp 13), (1, .tmp 16)]) [[(.slice (some ⟨gl, 0, none⟩) (d + 1) (d + 1))], [.slice (some ⟨ge, 0, none⟩) (d + 1) (d + 1)]] (l := tC gl ge d) rfl rfl rfl ⟨0, 1, rfl, rfl, rfl, by simp, 1, 1, rfl, rfl, rfl, by simp [splice], rfl⟩) ?_
    refine WP.a rfl rfl rfl rfl (Ac.box M71 (l := tC gl ge d) rfl rfl) ?_; rintro v73 w73 ⟨g, rfl, hg73, K73, M73⟩; refine .inl ⟨rfl, Keep nof w73, ?_⟩
    refine WP.p rfl rfl rfl rfl (fun _ => Ex.asg rfl) ?_
    refine WP.nil ?_
    refine WX.next (?_)
    refine WC.seq ?_
    refine WC.seq ?_
    refine WC.region ?_
    refine WL.ex rfl rfl rfl (Ex.mv rfl) ?_
    refine WL.ex rfl rfl rfl (Ex.nilc rfl) ?_
    refine WL.ex rfl rfl rfl (Ex.fa fl71_1 rfl) ?_
    refine WL.ex rfl rfl rfl (Ex.load ty22 rfl (M73.cell (i := 0) (v := (.slice (some ⟨ge, 0, none⟩) (d + 1) (d + 1))) rfl rfl)) ?_
    refine WL.ex rfl rfl rfl (Ex.len Tryd.underlying22 rfl) ?_
    refine WL.ex rfl rfl rfl (Ex.mv rfl) ?_
    refine WL.nil ?_
    refine WX.next (?_)
    refine WC.block ?_
    refine WC.loop (σ := Nat) (fun i => [(3, .pointer (some ⟨g, 0, none⟩)), (23, .int .i64 ((d + 1 : Nat) : Int)), (24, .int .i64 (i : Int))]) (fun i wr => i ≤ d + 1 ∧ Mem w wr nof [blk g (tC gl ge d) 71, blk gl (nilS (d + 1)) 22, blk ge (fl (fillTo (d + 1) i (emp dNode e0) (List.replicate 32 0))) 28]) (fun i => d + 1 - i) (0) ?_ (.cons rfl (.cons rfl (.cons rfl (.nil)))) ?_
    · refine ⟨by omega, ?_⟩
      rw [fillTo_zero]
      exact (Mem.pick M73 [0, 1, 2] (by decide) rfl)
    rintro i w81 ⟨hi, M81⟩
    refine WC.seq ?_
    refine WC.region ?_
    refine WL.ex rfl rfl rfl (Ex.lss rfl rfl) ?_
    refine WL.nil ?_
    refine WX.next (?_)
    refine WC.seq ?_
    refine WC.cond_dec rfl (fun hc25 => ?_) (fun hc25 => ?_)
    · skip
      refine WC.skip ?_
      refine WX.next (?_)
      refine WC.seq ?_
      refine WC.block ?_
      refine WC.seq ?_
      refine WC.region ?_
      refine WL.ex rfl rfl rfl (Ex.mv rfl) ?_
      refine WL.ex rfl rfl rfl (Ex.asg rfl) ?_
      refine WL.nil ?_
      refine WX.next (?_)
      refine WC.seq ?_
      refine WC.seq ?_
      refine WC.region ?_
      refine WL.ex rfl rfl rfl (Ex.mv rfl) ?_
      refine WL.ex rfl rfl rfl (Ex.eqI rfl rfl) ?_
      refine WL.nil ?_
      refine WX.next (?_)
      refine WC.cond_dec rfl (fun h28 => ?_) (fun h28 => ?_)
      · have hi0 : i = 0 := by omega
        refine WC.seq ?_
        refine WC.draw (Keep nof w81.drew) [7] (.one 0 0 (.one 1 0 (.one 2 0 (.one 4 0 (.one 3 1 (.one 5 2 (.one 6 0 (.one 7 2 .nil)))))))) mixed (by kernel_rfl) (by kernel_rfl) (by kernel_rfl) (HQ.then_ (HQ.then_ (HQ.block (HQ.then_ (HQ.then_ (HQ.block (HQ.then_ HQ.body))))))) ?_
        obtain ⟨w87, hw87⟩ : ∃ v, v = w81.drew := ⟨_, rfl⟩
        have D87 : Keep nof w81 w87 := by rw [hw87]; exact Keep.drew _ _
        have M87 := M81.step D87
        rw [← hw87]; clear hw87
        refine WP.p rfl rfl rfl rfl (fun _ => Ex.mv rfl) ?_
        refine WP.p rfl rfl rfl rfl (fun _ => Ex.nilc rfl) ?_
        refine WP.p rfl rfl rfl rfl (fun _ => Ex.fa fl71_1 rfl) ?_
        refine WP.p rfl rfl rfl rfl (fun _ => Ex.mv rfl) ?_
        refine WP.q (Keep.refl _ _) rfl rfl rfl rfl (fun w' hS => Ex.load ty22 rfl (hS.cell (M87.cell (i := 0) (v := (.slice (some ⟨ge, 0, none⟩) (d + 1) (d + 1))) rfl rfl) (fun f => f))) ?_
        refine WP.as rfl rfl rfl rfl (Ac.call rfl Tryd.func34 nm34 rfl (empty_ok w87 0 (by decide) (hT.keep M87.keep))) ?_; rintro v93 w93 ⟨rfl, K93⟩
        refine ⟨Keep nof w93, fun u h => K93.trans h, Keep.refl _ _, ?_⟩
        rw [e0_empty, show bytesV e0 = bytesV (emp dNode e0 i) by rw [hi0]; rfl]
        have M93 := M87.step K93
        refine WP.p rfl rfl rfl rfl (fun _ => Ex.ia Tryd.underlying22 sz28 rfl rfl ⟨by omega, by omega⟩) ?_
        refine WP.a0 rfl rfl rfl (Ac.stA M93 ty28 rfl rfl (vs := bytesV (emp dNode e0 i)) rfl (h32_len (emp32 i)) (bytesV_one _) (i := 2) rfl (by rw [h32_len (emp32 i), fl_len (fillE_len _ _)]; simp; omega)) ?_; rintro v95 w95 ⟨K95, M95⟩; refine .inl ⟨rfl, Keep nof w95, ?_⟩
        try dsimp only [List.set] at M95
        rw [fl, flat_set (fun a ha => h32_len (fillE_len (d + 1) i a ha)) (h32_len (emp32 i)) (i := i) (by simp; omega) (by simp)] at M95
        rw [show (fillTo (d + 1) i (emp dNode e0) (List.replicate 32 0)).set i (emp dNode e0 i) = fillTo (d + 1) (i + 1) (emp dNode e0) (List.replicate 32 0) from fillTo_set (d + 1) i (emp dNode e0) _] at M95
        refine WP.nil ?_
        refine WX.next (?_)
        refine WC.exit ?_
        refine WX.exit_then (WX.exit_block (WX.next (?_)))
        refine WC.region ?_
        refine WL.ex rfl rfl rfl (Ex.add rfl rfl (i64w _ (by omega) (by omega))) ?_
        refine WL.ex rfl rfl rfl (Ex.mv rfl) ?_
        refine WL.nil ?_
        refine WX.again (i + 1) ?_ ?_ (.cons rfl (.cons rfl (.cons rfl (.nil))))
        · (try dsimp only); omega
        · exact ⟨by omega, M95⟩
      · have hi0 : i ≠ 0 := fun h => h28 (by omega)
        have hp32 := emp32 (i - 1)
        refine WC.skip ?_
        refine WX.next (?_)
        refine WC.draw (Keep nof w81.drew) [23] (.one 0 0 (.one 1 0 (.one 2 0 (.one 4 0 (.one 5 0 (.one 6 0 (.one 7 0 (.one 9 0 (.one 10 0 (.one 13 0 (.one 14 0 (.one 15 0 (.one 17 0 (.one 18 0 (.one 3 1 (.one 8 1 (.one 11 0 (.one 12 1 (.one 16 1 (.one 19 0 (.one 20 1 (.one 21 2 (.one 22 0 (.one 23 2 .nil)))))))))))))))))))))))) mixed (by kernel_rfl) (by kernel_rfl) (by kernel_rfl) (HQ.block (HQ.then_ (HQ.then_ (HQ.block (HQ.then_ HQ.body))))) ?_
        obtain ⟨w98, hw98⟩ : ∃ v, v = w81.drew := ⟨_, rfl⟩
        have D98 : Keep nof w81 w98 := by rw [hw98]; exact Keep.drew _ _
        have M98 := M81.step D98
        rw [← hw98]; clear hw98
        refine WP.p rfl rfl rfl rfl (fun _ => Ex.mv rfl) ?_
        refine WP.p rfl rfl rfl rfl (fun _ => Ex.nilc rfl) ?_
        refine WP.p rfl rfl rfl rfl (fun _ => Ex.fa fl71_1 rfl) ?_
        refine WP.p rfl rfl rfl rfl (fun _ => Ex.mv rfl) ?_
        refine WP.p rfl rfl rfl rfl (fun _ => Ex.mv rfl) ?_
        refine WP.p rfl rfl rfl rfl (fun _ => Ex.nilc rfl) ?_
        refine WP.p rfl rfl rfl rfl (fun _ => Ex.fa fl71_1 rfl) ?_
        refine WP.p rfl rfl rfl rfl (fun _ => Ex.mv rfl) ?_
        refine WP.p rfl rfl rfl rfl (fun _ => Ex.sub rfl rfl (c := ((i - 1 : Nat) : Int)) (by rw [i64w _ (by omega) (by omega)]; omega)) ?_
        refine WP.p rfl rfl rfl rfl (fun _ => Ex.mv rfl) ?_
        refine WP.p rfl rfl rfl rfl (fun _ => Ex.nilc rfl) ?_
        refine WP.p rfl rfl rfl rfl (fun _ => Ex.fa fl71_1 rfl) ?_
        refine WP.p rfl rfl rfl rfl (fun _ => Ex.mv rfl) ?_
        refine WP.p rfl rfl rfl rfl (fun _ => Ex.sub rfl rfl (c := ((i - 1 : Nat) : Int)) (by rw [i64w _ (by omega) (by omega)]; omega)) ?_
        refine WP.q (Keep.refl _ _) rfl rfl rfl rfl (fun w' hS => Ex.load ty22 rfl (hS.cell (M98.cell (i := 0) (v := (.slice (some ⟨ge, 0, none⟩) (d + 1) (d + 1))) rfl rfl) (fun f => f))) ?_
        refine WP.q (Keep.refl _ _) rfl rfl rfl rfl (fun w' hS => Ex.load ty22 rfl (hS.cell (M98.cell (i := 0) (v := (.slice (some ⟨ge, 0, none⟩) (d + 1) (d + 1))) rfl rfl) (fun f => f))) ?_
        refine WP.p rfl rfl rfl rfl (fun _ => Ex.ia Tryd.underlying22 sz28 rfl rfl ⟨by omega, by omega⟩) ?_
        refine WP.q (Keep.refl _ _) rfl rfl rfl rfl (fun w' hS => Ex.loadA ty28 rfl (l := bytesV (emp dNode e0 (i - 1))) (h32_len hp32) ((M98.rdt (i := 2) rfl (flat_at (fun a ha => h32_len (fillE_len _ _ a ha)) (fillE_get (j := i - 1) (by omega) (by omega)) (by simp))).keep0 hS)) ?_
        refine WP.q (Keep.refl _ _) rfl rfl rfl rfl (fun w' hS => Ex.load ty22 rfl (hS.cell (M98.cell (i := 0) (v := (.slice (some ⟨ge, 0, none⟩) (d + 1) (d + 1))) rfl rfl) (fun f => f))) ?_
        refine WP.p rfl rfl rfl rfl (fun _ => Ex.ia Tryd.underlying22 sz28 rfl rfl ⟨by omega, by omega⟩) ?_
        refine WP.q (Keep.refl _ _) rfl rfl rfl rfl (fun w' hS => Ex.loadA ty28 rfl (l := bytesV (emp dNode e0 (i - 1))) (h32_len hp32) ((M98.rdt (i := 2) rfl (flat_at (fun a ha => h32_len (fillE_len _ _ a ha)) (fillE_get (j := i - 1) (by omega) (by omega)) (by simp))).keep0 hS)) ?_
        refine WP.as rfl rfl rfl rfl (Ac.call rfl Tryd.func30 nm30 rfl (node_ok w98 _ _ hp32 hp32 (hT.keep M98.keep))) ?_; rintro v120 w120 ⟨rfl, K120⟩
        refine ⟨Keep nof w120, fun u h => K120.trans h, Keep.refl _ _, ?_⟩
        rw [show dNode (emp dNode e0 (i - 1)) (emp dNode e0 (i - 1)) = emp dNode e0 i by obtain ⟨m, rfl⟩ : ∃ m, i = m + 1 := ⟨i - 1, by omega⟩; rfl]
        have M120 := M98.step K120
        refine WP.p rfl rfl rfl rfl (fun _ => Ex.ia Tryd.underlying22 sz28 rfl rfl ⟨by omega, by omega⟩) ?_
        refine WP.a0 rfl rfl rfl (Ac.stA M120 ty28 rfl rfl (vs := bytesV (emp dNode e0 i)) rfl (h32_len (emp32 i)) (bytesV_one _) (i := 2) rfl (by rw [h32_len (emp32 i), fl_len (fillE_len _ _)]; simp; omega)) ?_; rintro v122 w122 ⟨K122, M122⟩; refine .inl ⟨rfl, Keep nof w122, ?_⟩
        try dsimp only [List.set] at M122
        rw [fl, flat_set (fun a ha => h32_len (fillE_len (d + 1) i a ha)) (h32_len (emp32 i)) (i := i) (by simp; omega) (by simp)] at M122
        rw [show (fillTo (d + 1) i (emp dNode e0) (List.replicate 32 0)).set i (emp dNode e0 i) = fillTo (d + 1) (i + 1) (emp dNode e0) (List.replicate 32 0) from fillTo_set (d + 1) i (emp dNode e0) _] at M122
        refine WP.nil ?_
        refine WX.normal_block (WX.next (?_))
        refine WC.region ?_
        refine WL.ex rfl rfl rfl (Ex.add rfl rfl (i64w _ (by omega) (by omega))) ?_
        refine WL.ex rfl rfl rfl (Ex.mv rfl) ?_
        refine WL.nil ?_
        refine WX.again (i + 1) ?_ ?_ (.cons rfl (.cons rfl (.cons rfl (.nil))))
        · (try dsimp only); omega
        · exact ⟨by omega, M122⟩
    · obtain rfl : i = d + 1 := by omega
      rw [fillTo_full (d + 1) (d + 1) (Nat.le_refl _)] at M81
      refine WC.exit ?_
      refine WX.exit_then (WX.exit_then (WX.exit_block (WX.next (?_))))
      refine WC.seq ?_
      refine WC.region ?_
      refine WL.ex rfl rfl rfl (Ex.mv rfl) ?_
      refine WL.ex rfl rfl rfl (Ex.asg rfl) ?_
      refine WL.nil ?_
      refine WX.next (?_)
      refine WC.ret ?_
      refine WX.ret1 rfl rfl ?_
      have Mv := M81.free (r := levR (nilS (d + 1)) (lvOf dNode e0 d []) 28) (by rw [lvOf_nil]; exact lev_none _ _ _) (levn_fp _ _ _)
      have Ma : Mem w w81 nof [blk g (tC gl ge d) 71, blk gl (nilS (d + 1)) 22, levR (nilS (d + 1)) (lvOf dNode e0 d []) 28, blk ge (fl (emps dNode e0 (d + 1))) 28] := Mv.pick [1, 2, 0, 3] (by decide) rfl
      have Mb := Ma.closeS.closeS
      have Mc : Mem w w81 nof [blk ge (fl (emps dNode e0 (d + 1))) 28, treeR g gl ge d (nilS (d + 1)) (lvOf dNode e0 d [])] := Mb.pick [1, 0] (by decide) rfl
      exact ⟨g, gl, ge, rfl, Mc.closeS.toNew⟩

def h1_ : List UInt8 := 1 :: List.replicate 31 0
theorem h1_32 : H32 h1_ := rfl
theorem tApp_1 : tApp 1 [] h1_ = (0, 0, [h1_]) := rfl
theorem _root_.Go.Sx.Mem.tabF {w0 w : World} {rs : List Res} {r : Res} (M : Mem w0 w nof rs) (hT : Tabs w0) (i : Nat) (hi : rs[i]? = some r) : ∀ b ∈ r.fp, b ≠ 1 ∧ b ≠ 2 :=
  fun b hb => (M.own _ (List.mem_of_getElem? hi) b hb).elim (fun hle => hT.fresh hle) (fun f => f.elim)
theorem tApp_ok {d : Nat} {ls : Hs} {h : List UInt8} (hl : ls.length < 2 ^ d) : tApp d ls h = (ls.length, 0, ls ++ [h]) := if_pos hl
theorem fl_drop {l : Hs} (h : ∀ a ∈ l, H32 a) (m : Nat) : fl (l.drop m) = (fl l).drop (m * 32) := by
  have e : fl l = fl (l.take m) ++ fl (l.drop m) := by rw [fl, fl, fl, ← List.flatMap_append, List.take_append_drop]
  rcases Nat.le_total m l.length with hm | hm
  · have h1 : (fl (l.take m)).length = m * 32 := by rw [fl_len (fun a ha => h a (List.mem_of_mem_take ha)), List.length_take, Nat.min_eq_left hm]
    rw [e, ← h1, List.drop_left]
  · rw [List.drop_eq_nil_of_le hm, List.drop_eq_nil_of_le (by rw [fl_len h]; exact Nat.mul_le_mul_right _ hm)]
    rfl
/-- A slice of hashes that comes in. -/
theorem ok_hashes {w : World} {v : Value} (h : CK.ok w (.sl (rep 32 [.int .u8])) v) : ∃ A c, ∃ ls : Hs, v = .slice A ls.length c ∧ ls.length ≤ c ∧ c ≤ maxLen ∧ Rd w A (fl ls) ∧ ∀ a ∈ ls, H32 a := by
  obtain ⟨A, c, es, h1, h2, h3, h4, h5⟩ := sl_view h bytesV H32 (fun vs hv => h32_view vs hv)
  exact ⟨A, c, es, h1, h2, h3, h4, h5⟩

/- sponsion/sponsionlaw10.lives -/
theorem lives10_ok (w : World) (hT : Tabs w) :
    Gives Tryd.prog 11 #[] w fun u w1 => u = .bool true ∧ Keep nof w w1 := by
  have M0 := Mem.start w nof
  have h132 := h1_32
  have he32 : H32 e0 := dOf_len 2 []
  have hd32 := dNode_len h1_ e0
  have hal : ∀ a ∈ [h1_], H32 a := by intro a ha; obtain rfl : a = h1_ := (by simpa using ha); exact h1_32
  refine Gives.enter (n := 32) Tryd.func11 rfl Tryd.ntmps11 rfl (env := []) rfl ?_
  refine WC.seq ?_
  refine WC.region ?_
  refine WL.ex rfl rfl rfl (Ex.asg rfl) ?_
  refine WL.nil ?_
  refine WX.next (?_)
  refine WC.seq ?_
  refine WC.region ?_
  refine WL.ac rfl rfl rfl (Ac.call rfl Tryd.func12 nm12 rfl (tNew_ok w 1 (by decide) (hT.keep M0.keep))) ?_; rintro v2 w2 ⟨g, gl, ge, rfl, N2⟩
  have M2 := (M0.new N2).openS
  refine WL.ex rfl rfl rfl (Ex.asg rfl) ?_
  refine WL.nil ?_
  refine WX.next (?_)
  refine WC.seq ?_
  refine WC.region ?_
  refine WL.ex rfl rfl rfl (Ex.bldS bd28 (parts := [(0, .const (.int .u8 1))]) [[.int .u8 1]] (l := bytesV h1_) rfl rfl rfl ⟨0, 1, rfl, rfl, rfl, by simp, rfl⟩) ?_
  refine WL.ac rfl rfl rfl (Ac.alloc M2 (l := bytesV (List.replicate 32 0)) (by kernel_rfl)) ?_; rintro v5 w5 ⟨gh, rfl, hg5, K5, M5⟩
  refine WL.ac0 rfl rfl (Ac.stA M5 ty28 rfl rfl rfl (h32_len (by first | assumption | exact h32_0)) (bytesV_one _) (i := 0) rfl (by first | (rw [h32_len (by first | assumption | exact h32_0), h32_len (by first | assumption | exact h32_0)]; decide) | (rw [h32_len (by first | assumption | exact h32_0)]; decide) | rw [h32_len (by first | assumption | exact h32_0)])) ?_; rintro v6 w6 ⟨K6, M6⟩
  try dsimp only [List.set] at M6
  rw [splice_all _ _ (by first | rw [h32_len (by first | assumption | exact h32_0), h32_len (by first | assumption | exact h32_0)] | rw [h32_len (by first | assumption | exact h32_0)])] at M6
  refine WL.nil ?_
  refine WX.next (?_)
  refine WC.seq ?_
  refine WC.region ?_
  refine WL.ex rfl rfl rfl (Ex.mv rfl) ?_
  refine WL.ex rfl rfl rfl (Ex.loadA ty28 rfl (h32_len (by first | assumption | exact h32_0)) (M6.rdw (i := 0) rfl)) ?_
  refine WL.ac rfl rfl rfl (Ac.call rfl Tryd.func13 nm13 rfl (tAppend_ok w6 g gl ge 1 (nilS 2) ([]) h1_ (M6.get (i := 2) rfl) (by simp) h1_32 (by decide) (hT.keep M6.keep) (M6.tabF hT 2 rfl))) ?_; rintro v9 w9 ⟨vs1, rfl, T9⟩
  rw [tApp_ok (by decide)] at T9 ⊢
  dsimp only at T9
  rw [List.nil_append] at T9
  have M9 := M6.turned (i := 2) rfl T9
  try dsimp only [List.set] at M9
  refine WL.ex rfl rfl rfl (Ex.mv rfl) ?_
  refine WL.ex rfl rfl rfl (Ex.ext rfl rfl) ?_
  refine WL.ex rfl rfl rfl (Ex.ext rfl rfl) ?_
  refine WL.ex rfl rfl rfl (Ex.asg rfl) ?_
  refine WL.ex rfl rfl rfl (Ex.asg rfl) ?_
  refine WL.nil ?_
  refine WX.next (?_)
  refine WC.seq ?_
  refine WC.draw (Keep nof w9.drew) [8, 16] (.one 0 0 (.one 1 0 (.one 2 0 (.one 3 0 (.one 4 0 (.one 5 0 (.one 6 0 (.one 7 0 (.one 8 2 (.one 9 0 (.one 10 0 (.one 11 0 (.one 12 0 (.one 14 1 (.one 13 2 (.one 15 2 (.one 16 2 (.one 17 0 (.one 18 0 (.one 19 0 .nil)))))))))))))))))))) mixed (by kernel_rfl) (by kernel_rfl) (by kernel_rfl) (HQ.then_ HQ.body) ?_
  obtain ⟨w15, hw15⟩ : ∃ v, v = w9.drew := ⟨_, rfl⟩
  have D15 : Keep nof w9 w15 := by rw [hw15]; exact Keep.drew _ _
  have M15 := M9.step D15
  rw [← hw15]; clear hw15
  refine WP.p rfl rfl rfl rfl (fun _ => Ex.mv rfl) ?_
  refine WP.p rfl rfl rfl rfl (fun _ => Ex.nePn Tryd.underlying25 rfl) ?_
  refine WP.p rfl rfl rfl rfl (fun _ => Ex.mv rfl) ?_
  refine WP.py rfl rfl rfl rfl rfl rfl (fun _ => Ex.mv rfl) ?_
  refine WP.py rfl rfl rfl rfl rfl rfl (fun _ => Ex.eqI rfl rfl) ?_
  refine WP.p rfl rfl rfl rfl (fun _ => Ex.pickT rfl rfl) ?_
  refine WP.p rfl rfl rfl rfl (fun _ => Ex.mv rfl) ?_
  
  refine WP.py rfl rfl rfl rfl rfl rfl (fun _ => Ex.mv rfl) ?_
  refine WP.ay rfl rfl rfl rfl rfl rfl (Ac.call rfl Tryd.func16 nm16 rfl (tLen_ok w15 g gl ge 1 vs1 _ ([h1_]) (TreeS.of (M15.get (i := 2) rfl) (lvOf_len _ _)) (by rw [lvOf_get (by decide), levOf_zero]))) ?_; rintro v24 w24 ⟨rfl, K24⟩; refine .inl ⟨rfl, Keep nof w24, ?_⟩
  have M24 := M15.step K24
  refine WP.py rfl rfl rfl rfl rfl rfl (fun _ => Ex.eqI rfl rfl) ?_
  refine WP.p rfl rfl rfl rfl (fun _ => Ex.pickT rfl rfl) ?_
  refine WP.p rfl rfl rfl rfl (fun _ => Ex.mv rfl) ?_
  
  refine WP.py rfl rfl rfl rfl rfl rfl (fun _ => Ex.mv rfl) ?_
  refine WP.qy (Keep.refl _ _) rfl rfl rfl rfl rfl rfl (fun w' hS => Ex.loadA ty28 rfl (h32_len (by first | assumption | exact h32_0)) ((M24.rdw (i := 0) rfl).keep0 hS)) ?_
  refine WP.ays rfl rfl rfl rfl rfl rfl (Ac.call rfl Tryd.func14 nm14 rfl (tRoot_ok w24 g gl ge 1 vs1 ([h1_]) (TreeS.of (M24.get (i := 2) rfl) (lvOf_len _ _)) (ES.of (M24.get (i := 1) rfl)) hal (by decide) (hT.keep M24.keep))) ?_; rintro v30 w30 ⟨rfl, K30⟩
  refine ⟨Keep nof w30, fun u h => K30.trans h, Keep.refl _ _, ?_⟩
  rw [show nd dNode e0 [h1_] 1 0 = dNode h1_ e0 from rfl]
  have M30 := M24.step K30
  refine WP.ays rfl rfl rfl rfl rfl rfl (Ac.call rfl Tryd.func34 nm34 rfl (empty_ok w30 0 (by decide) (hT.keep M30.keep))) ?_; rintro v31 w31 ⟨rfl, K31⟩
  refine ⟨Keep nof w31, fun u h => K31.trans h, Keep.refl _ _, ?_⟩
  rw [e0_empty]
  have M31 := M30.step K31
  refine WP.ay rfl rfl rfl rfl rfl rfl (Ac.call rfl Tryd.func30 nm30 rfl (node_ok w31 _ _ h132 he32 (hT.keep M31.keep))) ?_; rintro v32 w32 ⟨rfl, K32⟩; refine .inl ⟨rfl, Keep nof w32, ?_⟩
  have M32 := M31.step K32
  refine WP.py rfl rfl rfl rfl rfl rfl (fun _ => Ex.eqA rfl rfl (eqHash w hd32 hd32)) ?_
  rw [decide_eq_true rfl]
  refine WP.p rfl rfl rfl rfl (fun _ => Ex.pickT rfl rfl) ?_
  refine WP.p rfl rfl rfl rfl (fun _ => Ex.asg rfl) ?_
  refine WP.nil ?_
  refine WX.next (?_)
  refine WC.ret ?_
  refine WX.ret1 rfl rfl ?_
  exact ⟨rfl, M32.keep⟩
  -- UNUSED HINTS ['split:4.2']

end Go.Proofs.YtfgikoilgmddhaaDoor
