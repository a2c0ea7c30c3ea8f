/- Walks, written by gen.py off the translation's own print: each says what the Go function comes to. -/
import Derived.Test.YtchmjpdkonfifaaDoorTe
set_option linter.unusedVariables false
set_option linter.unusedSimpArgs false
namespace Go.Proofs.YtchmjpdkonfifaaDoor
open Go.Sx Go.RowKit
attribute [local irreducible] Ac Ex WL WC WX WP Gives sha

/-- A new tree, and the sums of the empty trees that it keeps. -/
def newR (g gl ge d : Nat) (vs : List Value) (lv : List Hs) : Res := sep (blk ge (fl (emps dNode e0 (d + 1))) 31) (treeR g gl ge d vs lv)
def nilS (m : Nat) : List Value := List.replicate m (.slice none 0 0)
theorem ES.of {w : World} {ge d : Nat} (h : (blk ge (fl (emps dNode e0 (d + 1))) 31).sat w) : ES w ge d := blk_rdt (o := 0) (m := (fl (emps dNode e0 (d + 1))).length) h (by rw [List.drop_zero, List.take_length])
theorem fillE_len (m i : Nat) : ∀ a ∈ fillTo m i (emp dNode e0) (List.replicate 32 0), H32 a := by
  intro a ha
  obtain ⟨j, _, rfl⟩ := List.mem_map.1 ha
  split
  · exact emp32 j
  · exact h32_0
theorem fillE_get {m i j : Nat} (h : j < i) (hi : i ≤ m) : (fillTo m i (emp dNode e0) (List.replicate 32 0))[j]? = some (emp dNode e0 j) := by
  rw [fillTo, List.getElem?_map, List.getElem?_range (by omega)]
  simp [h]
theorem e0_empty : emptyH (lvl 0) = e0 := rfl

/- sponsion/tree.New -/
theorem tNew_ok (w : World) (d : Nat) (hd : d ≤ 32) (hT : Tabs w) :
    Gives Tryd.prog 42 #[.int .i64 (d : Int)] w fun u w1 => ∃ g gl ge, u = .pointer (some ⟨g, 0, none⟩) ∧ New w w1 (newR g gl ge d (nilS (d + 1)) (lvOf dNode e0 d [])) := by
  have M0 := Mem.start w nof
  have ei32 := emp32
  refine Gives.enter (n := 61) Tryd.func42 rfl Tryd.ntmps42 rfl (env := [(0, .int .i64 (d : Int))]) rfl ?_
  refine WC.seq ?_
  refine WC.region ?_
  refine WL.ex rfl rfl rfl (Ex.asg rfl) ?_
  refine WL.nil ?_
  refine WX.next (?_)
  refine WC.seq ?_
  refine WC.seq ?_
  refine WC.region ?_
  refine WL.ex rfl rfl rfl (Ex.mv rfl) ?_
  refine WL.ex rfl rfl rfl (Ex.lss rfl rfl) ?_
  refine WL.ex rfl rfl rfl (Ex.mv rfl) ?_
  rw [decide_eq_false (show ¬ (d : Int) < 0 by omega)]
  refine WL.yes rfl rfl rfl rfl ?_
  refine WL.ex rfl rfl rfl (Ex.mv rfl) ?_
  refine WL.yes rfl rfl rfl rfl ?_
  refine WL.ex rfl rfl rfl (Ex.gtr rfl rfl) ?_
  refine WL.ex rfl rfl rfl (Ex.pickF rfl rfl) ?_
  refine WL.nil ?_
  refine WX.next (?_)
  
  refine WC.no (by first | rfl | exact congrArg some (congrArg Value.bool (decide_eq_false (by omega)))) ?_
  refine WC.skip ?_
  refine WX.next (?_)
  refine WC.seq ?_
  refine WC.draw (Keep nof w.drew) [2, 5, 7] (.one 0 0 (.one 1 0 (.one 3 0 (.one 4 0 (.two 2 (.one 5 2 (.one 6 0 (.one 7 2 (.one 8 0 .nil)))) 5 (.one 2 2 (.one 6 0 (.one 7 2 (.one 8 0 .nil))))))))) mixed (by kernel_rfl) (by kernel_rfl) (by kernel_rfl) (HQ.then_ HQ.body) ?_
  obtain ⟨w8, hw8⟩ : ∃ v, v = w.drew := ⟨_, rfl⟩
  have D8 : Keep nof w w8 := by rw [hw8]; exact Keep.drew _ _
  have M8 := M0.step D8
  rw [← hw8]; clear hw8
  refine WP.p rfl rfl rfl rfl (fun _ => Ex.mv rfl) ?_
  refine WP.p rfl rfl rfl rfl (fun _ => Ex.add rfl rfl (i64w _ (by omega) (by omega))) ?_
  refine WP.p rfl rfl rfl rfl (fun _ => Ex.mv rfl) ?_
  refine WP.p rfl rfl rfl rfl (fun _ => Ex.add rfl rfl (i64w _ (by omega) (by omega))) ?_
  refine WP.two ?_ ?_
  · skip
    refine WP.a rfl rfl rfl rfl (Ac.mk M8 el128 rfl rfl (m := d + 1) (by omega) (by omega) (by omega) (by unfold maxLen; omega) (zs := [.slice none 0 0]) (by kernel_rfl)) ?_; rintro v13 w13 ⟨gl, rfl, hg13, K13, M13⟩; refine .inl ⟨rfl, Keep nof w13, ?_⟩
    rw [Nat.mul_one, made1] at M13
    replace M13 := M13.rblk (i := 0) rfl
    try dsimp only [List.set] at M13
    refine WP.a rfl rfl rfl rfl (Ac.mk M13 el39 rfl rfl (m := d + 1) (by omega) (by omega) (by omega) (by unfold maxLen; omega) (zs := bytesV (List.replicate 32 0)) (by kernel_rfl)) ?_; rintro v14 w14 ⟨ge, rfl, hg14, K14, M14⟩; refine .inl ⟨rfl, Keep nof w14, ?_⟩
    rw [made32] at M14
    replace M14 := M14.rblk (i := 0) rfl
    try dsimp only [List.set] at M14
    refine WP.p rfl rfl rfl rfl (fun _ => Ex.bldS bd130 (parts := [(0, .tmp 13), (1, .tmp 16)]) [[(.slice (some ⟨gl, 0, none⟩) (d + 1) (d + 1))], [.slice (some ⟨ge, 0, none⟩) (d + 1) (d + 1)]] (l := tC gl ge d) rfl rfl rfl ⟨0, 1, rfl, rfl, rfl, by simp, 1, 1, rfl, rfl, rfl, by simp [splice], rfl⟩) ?_
    refine WP.a rfl rfl rfl rfl (Ac.box M14 (l := tC gl ge d) rfl rfl) ?_; rintro v16 w16 ⟨g, rfl, hg16, K16, M16⟩; refine .inl ⟨rfl, Keep nof w16, ?_⟩
    refine WP.p rfl rfl rfl rfl (fun _ => Ex.asg rfl) ?_
    refine WP.nil ?_
    refine WX.next (?_)
    refine WC.seq ?_
    refine WC.seq ?_
    refine WC.region ?_
    refine WL.ex rfl rfl rfl (Ex.mv rfl) ?_
    refine WL.ex rfl rfl rfl (Ex.nilc rfl) ?_
    refine WL.ex rfl rfl rfl (Ex.fa fl130_1 rfl) ?_
    refine WL.ex rfl rfl rfl (Ex.load ty39 rfl (M16.cell (i := 0) (v := (.slice (some ⟨ge, 0, none⟩) (d + 1) (d + 1))) rfl rfl)) ?_
    refine WL.ex rfl rfl rfl (Ex.len Tryd.underlying39 rfl) ?_
    refine WL.ex rfl rfl rfl (Ex.mv rfl) ?_
    refine WL.nil ?_
    refine WX.next (?_)
    refine WC.block ?_
    refine WC.loop (σ := Nat) (fun i => [(3, .pointer (some ⟨g, 0, none⟩)), (23, .int .i64 ((d + 1 : Nat) : Int)), (24, .int .i64 (i : Int))]) (fun i wr => i ≤ d + 1 ∧ Mem w wr nof [blk g (tC gl ge d) 130, blk gl (nilS (d + 1)) 39, blk ge (fl (fillTo (d + 1) i (emp dNode e0) (List.replicate 32 0))) 31]) (fun i => d + 1 - i) (0) ?_ (.cons rfl (.cons rfl (.cons rfl (.nil)))) ?_
    · refine ⟨by omega, ?_⟩
      rw [fillTo_zero]
      exact (Mem.pick M16 [0, 2, 1] (by decide) rfl)
    rintro i w24 ⟨hi, M24⟩
    refine WC.seq ?_
    refine WC.region ?_
    refine WL.ex rfl rfl rfl (Ex.lss rfl rfl) ?_
    refine WL.nil ?_
    refine WX.next (?_)
    refine WC.seq ?_
    refine WC.cond_dec rfl (fun hc25 => ?_) (fun hc25 => ?_)
    · skip
      refine WC.skip ?_
      refine WX.next (?_)
      refine WC.seq ?_
      refine WC.block ?_
      refine WC.seq ?_
      refine WC.region ?_
      refine WL.ex rfl rfl rfl (Ex.mv rfl) ?_
      refine WL.ex rfl rfl rfl (Ex.asg rfl) ?_
      refine WL.nil ?_
      refine WX.next (?_)
      refine WC.seq ?_
      refine WC.seq ?_
      refine WC.region ?_
      refine WL.ex rfl rfl rfl (Ex.mv rfl) ?_
      refine WL.ex rfl rfl rfl (Ex.eqI rfl rfl) ?_
      refine WL.nil ?_
      refine WX.next (?_)
      refine WC.cond_dec rfl (fun h28 => ?_) (fun h28 => ?_)
      · have hi0 : i = 0 := by omega
        refine WC.seq ?_
        refine WC.draw (Keep nof w24.drew) [7] (.one 0 0 (.one 1 0 (.one 2 0 (.one 4 0 (.one 3 1 (.one 5 2 (.one 6 0 (.one 7 2 .nil)))))))) mixed (by kernel_rfl) (by kernel_rfl) (by kernel_rfl) (HQ.then_ (HQ.then_ (HQ.block (HQ.then_ (HQ.then_ (HQ.block (HQ.then_ HQ.body))))))) ?_
        obtain ⟨w30, hw30⟩ : ∃ v, v = w24.drew := ⟨_, rfl⟩
        have D30 : Keep nof w24 w30 := by rw [hw30]; exact Keep.drew _ _
        have M30 := M24.step D30
        rw [← hw30]; clear hw30
        refine WP.p rfl rfl rfl rfl (fun _ => Ex.mv rfl) ?_
        refine WP.p rfl rfl rfl rfl (fun _ => Ex.nilc rfl) ?_
        refine WP.p rfl rfl rfl rfl (fun _ => Ex.fa fl130_1 rfl) ?_
        refine WP.p rfl rfl rfl rfl (fun _ => Ex.mv rfl) ?_
        refine WP.q (Keep.refl _ _) rfl rfl rfl rfl (fun w' hS => Ex.load ty39 rfl (hS.cell (M30.cell (i := 0) (v := (.slice (some ⟨ge, 0, none⟩) (d + 1) (d + 1))) rfl rfl) (fun f => f))) ?_
        refine WP.as rfl rfl rfl rfl (Ac.call rfl Tryd.func78 nm78 rfl (empty_ok w30 0 (by decide) (hT.keep M30.keep))) ?_; rintro v36 w36 ⟨rfl, K36⟩
        refine ⟨Keep nof w36, fun u h => K36.trans h, Keep.refl _ _, ?_⟩
        rw [e0_empty, show bytesV e0 = bytesV (emp dNode e0 i) by rw [hi0]; rfl]
        have M36 := M30.step K36
        refine WP.p rfl rfl rfl rfl (fun _ => Ex.ia Tryd.underlying39 sz31 rfl rfl ⟨by omega, by omega⟩) ?_
        refine WP.a0 rfl rfl rfl (Ac.stA M36 ty31 rfl rfl (vs := bytesV (emp dNode e0 i)) rfl (h32_len (emp32 i)) (bytesV_one _) (i := 2) rfl (by rw [h32_len (emp32 i), fl_len (fillE_len _ _)]; simp; omega)) ?_; rintro v38 w38 ⟨K38, M38⟩; refine .inl ⟨rfl, Keep nof w38, ?_⟩
        try dsimp only [List.set] at M38
        rw [fl, flat_set (fun a ha => h32_len (fillE_len (d + 1) i a ha)) (h32_len (emp32 i)) (i := i) (by simp; omega) (by simp)] at M38
        rw [show (fillTo (d + 1) i (emp dNode e0) (List.replicate 32 0)).set i (emp dNode e0 i) = fillTo (d + 1) (i + 1) (emp dNode e0) (List.replicate 32 0) from fillTo_set (d + 1) i (emp dNode e0) _] at M38
        refine WP.nil ?_
        refine WX.next (?_)
        refine WC.exit ?_
        refine WX.exit_then (WX.exit_block (WX.next (?_)))
        refine WC.region ?_
        refine WL.ex rfl rfl rfl (Ex.add rfl rfl (i64w _ (by omega) (by omega))) ?_
        refine WL.ex rfl rfl rfl (Ex.mv rfl) ?_
        refine WL.nil ?_
        refine WX.again (i + 1) ?_ ?_ (.cons rfl (.cons rfl (.cons rfl (.nil))))
        · (try dsimp only); omega
        · exact ⟨by omega, M38⟩
      · have hi0 : i ≠ 0 := fun h => h28 (by omega)
        have hp32 := emp32 (i - 1)
        refine WC.skip ?_
        refine WX.next (?_)
        refine WC.draw (Keep nof w24.drew) [23] (.one 0 0 (.one 1 0 (.one 2 0 (.one 4 0 (.one 5 0 (.one 6 0 (.one 7 0 (.one 9 0 (.one 10 0 (.one 13 0 (.one 14 0 (.one 15 0 (.one 17 0 (.one 18 0 (.one 3 1 (.one 8 1 (.one 11 0 (.one 12 1 (.one 16 1 (.one 19 0 (.one 20 1 (.one 21 2 (.one 22 0 (.one 23 2 .nil)))))))))))))))))))))))) mixed (by kernel_rfl) (by kernel_rfl) (by kernel_rfl) (HQ.block (HQ.then_ (HQ.then_ (HQ.block (HQ.then_ HQ.body))))) ?_
        obtain ⟨w41, hw41⟩ : ∃ v, v = w24.drew := ⟨_, rfl⟩
        have D41 : Keep nof w24 w41 := by rw [hw41]; exact Keep.drew _ _
        have M41 := M24.step D41
        rw [← hw41]; clear hw41
        refine WP.p rfl rfl rfl rfl (fun _ => Ex.mv rfl) ?_
        refine WP.p rfl rfl rfl rfl (fun _ => Ex.nilc rfl) ?_
        refine WP.p rfl rfl rfl rfl (fun _ => Ex.fa fl130_1 rfl) ?_
        refine WP.p rfl rfl rfl rfl (fun _ => Ex.mv rfl) ?_
        refine WP.p rfl rfl rfl rfl (fun _ => Ex.mv rfl) ?_
        refine WP.p rfl rfl rfl rfl (fun _ => Ex.nilc rfl) ?_
        refine WP.p rfl rfl rfl rfl (fun _ => Ex.fa fl130_1 rfl) ?_
        refine WP.p rfl rfl rfl rfl (fun _ => Ex.mv rfl) ?_
        refine WP.p rfl rfl rfl rfl (fun _ => Ex.sub rfl rfl (c := ((i - 1 : Nat) : Int)) (by rw [i64w _ (by omega) (by omega)]; omega)) ?_
        refine WP.p rfl rfl rfl rfl (fun _ => Ex.mv rfl) ?_
        refine WP.p rfl rfl rfl rfl (fun _ => Ex.nilc rfl) ?_
        refine WP.p rfl rfl rfl rfl (fun _ => Ex.fa fl130_1 rfl) ?_
        refine WP.p rfl rfl rfl rfl (fun _ => Ex.mv rfl) ?_
        refine WP.p rfl rfl rfl rfl (fun _ => Ex.sub rfl rfl (c := ((i - 1 : Nat) : Int)) (by rw [i64w _ (by omega) (by omega)]; omega)) ?_
        refine WP.q (Keep.refl _ _) rfl rfl rfl rfl (fun w' hS => Ex.load ty39 rfl (hS.cell (M41.cell (i := 0) (v := (.slice (some ⟨ge, 0, none⟩) (d + 1) (d + 1))) rfl rfl) (fun f => f))) ?_
        refine WP.q (Keep.refl _ _) rfl rfl rfl rfl (fun w' hS => Ex.load ty39 rfl (hS.cell (M41.cell (i := 0) (v := (.slice (some ⟨ge, 0, none⟩) (d + 1) (d + 1))) rfl rfl) (fun f => f))) ?_
        refine WP.p rfl rfl rfl rfl (fun _ => Ex.ia Tryd.underlying39 sz31 rfl rfl ⟨by omega, by omega⟩) ?_
        refine WP.q (Keep.refl _ _) rfl rfl rfl rfl (fun w' hS => Ex.loadA ty31 rfl (l := bytesV (emp dNode e0 (i - 1))) (h32_len hp32) ((M41.rdt (i := 2) rfl (flat_at (fun a ha => h32_len (fillE_len _ _ a ha)) (fillE_get (j := i - 1) (by omega) (by omega)) (by simp))).keep0 hS)) ?_
        refine WP.q (Keep.refl _ _) rfl rfl rfl rfl (fun w' hS => Ex.load ty39 rfl (hS.cell (M41.cell (i := 0) (v := (.slice (some ⟨ge, 0, none⟩) (d + 1) (d + 1))) rfl rfl) (fun f => f))) ?_
        refine WP.p rfl rfl rfl rfl (fun _ => Ex.ia Tryd.underlying39 sz31 rfl rfl ⟨by omega, by omega⟩) ?_
        refine WP.q (Keep.refl _ _) rfl rfl rfl rfl (fun w' hS => Ex.loadA ty31 rfl (l := bytesV (emp dNode e0 (i - 1))) (h32_len hp32) ((M41.rdt (i := 2) rfl (flat_at (fun a ha => h32_len (fillE_len _ _ a ha)) (fillE_get (j := i - 1) (by omega) (by omega)) (by simp))).keep0 hS)) ?_
        refine WP.as rfl rfl rfl rfl (Ac.call rfl Tryd.func74 nm74 rfl (node_ok w41 _ _ hp32 hp32 (hT.keep M41.keep))) ?_; rintro v63 w63 ⟨rfl, K63⟩
        refine ⟨Keep nof w63, fun u h => K63.trans h, Keep.refl _ _, ?_⟩
        rw [show dNode (emp dNode e0 (i - 1)) (emp dNode e0 (i - 1)) = emp dNode e0 i by obtain ⟨m, rfl⟩ : ∃ m, i = m + 1 := ⟨i - 1, by omega⟩; rfl]
        have M63 := M41.step K63
        refine WP.p rfl rfl rfl rfl (fun _ => Ex.ia Tryd.underlying39 sz31 rfl rfl ⟨by omega, by omega⟩) ?_
        refine WP.a0 rfl rfl rfl (Ac.stA M63 ty31 rfl rfl (vs := bytesV (emp dNode e0 i)) rfl (h32_len (emp32 i)) (bytesV_one _) (i := 2) rfl (by rw [h32_len (emp32 i), fl_len (fillE_len _ _)]; simp; omega)) ?_; rintro v65 w65 ⟨K65, M65⟩; refine .inl ⟨rfl, Keep nof w65, ?_⟩
        try dsimp only [List.set] at M65
        rw [fl, flat_set (fun a ha => h32_len (fillE_len (d + 1) i a ha)) (h32_len (emp32 i)) (i := i) (by simp; omega) (by simp)] at M65
        rw [show (fillTo (d + 1) i (emp dNode e0) (List.replicate 32 0)).set i (emp dNode e0 i) = fillTo (d + 1) (i + 1) (emp dNode e0) (List.replicate 32 0) from fillTo_set (d + 1) i (emp dNode e0) _] at M65
        refine WP.nil ?_
        refine WX.normal_block (WX.next (?_))
        refine WC.region ?_
        refine WL.ex rfl rfl rfl (Ex.add rfl rfl (i64w _ (by omega) (by omega))) ?_
        refine WL.ex rfl rfl rfl (Ex.mv rfl) ?_
        refine WL.nil ?_
        refine WX.again (i + 1) ?_ ?_ (.cons rfl (.cons rfl (.cons rfl (.nil))))
        · (try dsimp only); omega
        · exact ⟨by omega, M65⟩
    · obtain rfl : i = d + 1 := by omega
      rw [fillTo_full (d + 1) (d + 1) (Nat.le_refl _)] at M24
      refine WC.exit ?_
      refine WX.exit_then (WX.exit_then (WX.exit_block (WX.next (?_))))
      refine WC.seq ?_
      refine WC.region ?_
      refine WL.ex rfl rfl rfl (Ex.mv rfl) ?_
      refine WL.ex rfl rfl rfl (Ex.asg rfl) ?_
      refine WL.nil ?_
      refine WX.next (?_)
      refine WC.ret ?_
      refine WX.ret1 rfl rfl ?_
      have Mv := M24.free (r := levR (nilS (d + 1)) (lvOf dNode e0 d []) 31) (by rw [lvOf_nil]; exact lev_none _ _ _) (levn_fp _ _ _)
      have Ma : Mem w w24 nof [blk g (tC gl ge d) 130, blk gl (nilS (d + 1)) 39, levR (nilS (d + 1)) (lvOf dNode e0 d []) 31, blk ge (fl (emps dNode e0 (d + 1))) 31] := Mv.pick [1, 2, 0, 3] (by decide) rfl
      have Mb := Ma.closeS.closeS
      have Mc : Mem w w24 nof [blk ge (fl (emps dNode e0 (d + 1))) 31, treeR g gl ge d (nilS (d + 1)) (lvOf dNode e0 d [])] := Mb.pick [1, 0] (by decide) rfl
      exact ⟨g, gl, ge, rfl, Mc.closeS.toNew⟩
  · skip
    refine WP.a rfl rfl rfl rfl (Ac.mk M8 el39 rfl rfl (m := d + 1) (by omega) (by omega) (by omega) (by unfold maxLen; omega) (zs := bytesV (List.replicate 32 0)) (by kernel_rfl)) ?_; rintro v70 w70 ⟨ge, rfl, hg70, K70, M70⟩; refine .inl ⟨rfl, Keep nof w70, ?_⟩
    rw [made32] at M70
    replace M70 := M70.rblk (i := 0) rfl
    try dsimp only [List.set] at M70
    refine WP.a rfl rfl rfl rfl (Ac.mk M70 el128 rfl rfl (m := d + 1) (by omega) (by omega) (by omega) (by unfold maxLen; omega) (zs := [.slice none 0 0]) (by kernel_rfl)) ?_; rintro v71 w71 ⟨gl, rfl, hg71, K71, M71⟩; refine .inl ⟨rfl, Keep nof w71, ?_⟩
    rw [Nat.mul_one, made1] at M71
    replace M71 := M71.rblk (i := 0) rfl
    try dsimp only [List.set] at M71
    refine WP.p rfl rfl rfl rfl (fun _ => Ex.bldS bd130 (parts := [(0, .tmp 13), (1, .tmp 16)]) [[(.slice (some ⟨gl, 0, none⟩) (d + 1) (d + 1))], [.slice (some ⟨ge, 0, none⟩) (d + 1) (d + 1)]] (l := tC gl ge d) rfl rfl rfl ⟨0, 1, rfl, rfl, rfl, by simp, 1, 1, rfl, rfl, rfl, by simp [splice], rfl⟩) ?_
    refine WP.a rfl rfl rfl rfl (Ac.box M71 (l := tC gl ge d) rfl rfl) ?_; rintro v73 w73 ⟨g, rfl, hg73, K73, M73⟩; refine .inl ⟨rfl, Keep nof w73, ?_⟩
    refine WP.p rfl rfl rfl rfl (fun _ => Ex.asg rfl) ?_
    refine WP.nil ?_
    refine WX.next (?_)
    refine WC.seq ?_
    refine WC.seq ?_
    refine WC.region ?_
    refine WL.ex rfl rfl rfl (Ex.mv rfl) ?_
    refine WL.ex rfl rfl rfl (Ex.nilc rfl) ?_
    refine WL.ex rfl rfl rfl (Ex.fa fl130_1 rfl) ?_
    refine WL.ex rfl rfl rfl (Ex.load ty39 rfl (M73.cell (i := 0) (v := (.slice (some ⟨ge, 0, none⟩) (d + 1) (d + 1))) rfl rfl)) ?_
    refine WL.ex rfl rfl rfl (Ex.len Tryd.underlying39 rfl) ?_
    refine WL.ex rfl rfl rfl (Ex.mv rfl) ?_
    refine WL.nil ?_
    refine WX.next (?_)
    refine WC.block ?_
    refine WC.loop (σ := Nat) (fun i => [(3, .pointer (some ⟨g, 0, none⟩)), (23, .int .i64 ((d + 1 : Nat) : Int)), (24, .int .i64 (i : Int))]) (fun i wr => i ≤ d + 1 ∧ Mem w wr nof [blk g (tC gl ge d) 130, blk gl (nilS (d + 1)) 39, blk ge (fl (fillTo (d + 1) i (emp dNode e0) (List.replicate 32 0))) 31]) (fun i => d + 1 - i) (0) ?_ (.cons rfl (.cons rfl (.cons rfl (.nil)))) ?_
    · refine ⟨by omega, ?_⟩
      rw [fillTo_zero]
      exact (Mem.pick M73 [0, 1, 2] (by decide) rfl)
    rintro i w81 ⟨hi, M81⟩
    refine WC.seq ?_
    refine WC.region ?_
    refine WL.ex rfl rfl rfl (Ex.lss rfl rfl) ?_
    refine WL.nil ?_
    refine WX.next (?_)
    refine WC.seq ?_
    refine WC.cond_dec rfl (fun hc25 => ?_) (fun hc25 => ?_)
    · skip
      refine WC.skip ?_
      refine WX.next (?_)
      refine WC.seq ?_
      refine WC.block ?_
      refine WC.seq ?_
      refine WC.region ?_
      refine WL.ex rfl rfl rfl (Ex.mv rfl) ?_
      refine WL.ex rfl rfl rfl (Ex.asg rfl) ?_
      refine WL.nil ?_
      refine WX.next (?_)
      refine WC.seq ?_
      refine WC.seq ?_
      refine WC.region ?_
      refine WL.ex rfl rfl rfl (Ex.mv rfl) ?_
      refine WL.ex rfl rfl rfl (Ex.eqI rfl rfl) ?_
      refine WL.nil ?_
      refine WX.next (?_)
      refine WC.cond_dec rfl (fun h28 => ?_) (fun h28 => ?_)
      · have hi0 : i = 0 := by omega
        refine WC.seq ?_
        refine WC.draw (Keep nof w81.drew) [7] (.one 0 0 (.one 1 0 (.one 2 0 (.one 4 0 (.one 3 1 (.one 5 2 (.one 6 0 (.one 7 2 .nil)))))))) mixed (by kernel_rfl) (by kernel_rfl) (by kernel_rfl) (HQ.then_ (HQ.then_ (HQ.block (HQ.then_ (HQ.then_ (HQ.block (HQ.then_ HQ.body))))))) ?_
        obtain ⟨w87, hw87⟩ : ∃ v, v = w81.drew := ⟨_, rfl⟩
        have D87 : Keep nof w81 w87 := by rw [hw87]; exact Keep.drew _ _
        have M87 := M81.step D87
        rw [← hw87]; clear hw87
        refine WP.p rfl rfl rfl rfl (fun _ => Ex.mv rfl) ?_
        refine WP.p rfl rfl rfl rfl (fun _ => Ex.nilc rfl) ?_
        refine WP.p rfl rfl rfl rfl (fun _ => Ex.fa fl130_1 rfl) ?_
        refine WP.p rfl rfl rfl rfl (fun _ => Ex.mv rfl) ?_
        refine WP.q (Keep.refl _ _) rfl rfl rfl rfl (fun w' hS => Ex.load ty39 rfl (hS.cell (M87.cell (i := 0) (v := (.slice (some ⟨ge, 0, none⟩) (d + 1) (d + 1))) rfl rfl) (fun f => f))) ?_
        refine WP.as rfl rfl rfl rfl (Ac.call rfl Tryd.func78 nm78 rfl (empty_ok w87 0 (by decide) (hT.keep M87.keep))) ?_; rintro v93 w93 ⟨rfl, K93⟩
        refine ⟨Keep nof w93, fun u h => K93.trans h, Keep.refl _ _, ?_⟩
        rw [e0_empty, show bytesV e0 = bytesV (emp dNode e0 i) by rw [hi0]; rfl]
        have M93 := M87.step K93
        refine WP.p rfl rfl rfl rfl (fun _ => Ex.ia Tryd.underlying39 sz31 rfl rfl ⟨by omega, by omega⟩) ?_
        refine WP.a0 rfl rfl rfl (Ac.stA M93 ty31 rfl rfl (vs := bytesV (emp dNode e0 i)) rfl (h32_len (emp32 i)) (bytesV_one _) (i := 2) rfl (by rw [h32_len (emp32 i), fl_len (fillE_len _ _)]; simp; omega)) ?_; rintro v95 w95 ⟨K95, M95⟩; refine .inl ⟨rfl, Keep nof w95, ?_⟩
        try dsimp only [List.set] at M95
        rw [fl, flat_set (fun a ha => h32_len (fillE_len (d + 1) i a ha)) (h32_len (emp32 i)) (i := i) (by simp; omega) (by simp)] at M95
        rw [show (fillTo (d + 1) i (emp dNode e0) (List.replicate 32 0)).set i (emp dNode e0 i) = fillTo (d + 1) (i + 1) (emp dNode e0) (List.replicate 32 0) from fillTo_set (d + 1) i (emp dNode e0) _] at M95
        refine WP.nil ?_
        refine WX.next (?_)
        refine WC.exit ?_
        refine WX.exit_then (WX.exit_block (WX.next (?_)))
        refine WC.region ?_
        refine WL.ex rfl rfl rfl (Ex.add rfl rfl (i64w _ (by omega) (by omega))) ?_
        refine WL.ex rfl rfl rfl (Ex.mv rfl) ?_
        refine WL.nil ?_
        refine WX.again (i + 1) ?_ ?_ (.cons rfl (.cons rfl (.cons rfl (.nil))))
        · (try dsimp only); omega
        · exact ⟨by omega, M95⟩
      · have hi0 : i ≠ 0 := fun h => h28 (by omega)
        have hp32 := emp32 (i - 1)
        refine WC.skip ?_
        refine WX.next (?_)
        refine WC.draw (Keep nof w81.drew) [23] (.one 0 0 (.one 1 0 (.one 2 0 (.one 4 0 (.one 5 0 (.one 6 0 (.one 7 0 (.one 9 0 (.one 10 0 (.one 13 0 (.one 14 0 (.one 15 0 (.one 17 0 (.one 18 0 (.one 3 1 (.one 8 1 (.one 11 0 (.one 12 1 (.one 16 1 (.one 19 0 (.one 20 1 (.one 21 2 (.one 22 0 (.one 23 2 .nil)))))))))))))))))))))))) mixed (by kernel_rfl) (by kernel_rfl) (by kernel_rfl) (HQ.block (HQ.then_ (HQ.then_ (HQ.block (HQ.then_ HQ.body))))) ?_
        obtain ⟨w98, hw98⟩ : ∃ v, v = w81.drew := ⟨_, rfl⟩
        have D98 : Keep nof w81 w98 := by rw [hw98]; exact Keep.drew _ _
        have M98 := M81.step D98
        rw [← hw98]; clear hw98
        refine WP.p rfl rfl rfl rfl (fun _ => Ex.mv rfl) ?_
        refine WP.p rfl rfl rfl rfl (fun _ => Ex.nilc rfl) ?_
        refine WP.p rfl rfl rfl rfl (fun _ => Ex.fa fl130_1 rfl) ?_
        refine WP.p rfl rfl rfl rfl (fun _ => Ex.mv rfl) ?_
        refine WP.p rfl rfl rfl rfl (fun _ => Ex.mv rfl) ?_
        refine WP.p rfl rfl rfl rfl (fun _ => Ex.nilc rfl) ?_
        refine WP.p rfl rfl rfl rfl (fun _ => Ex.fa fl130_1 rfl) ?_
        refine WP.p rfl rfl rfl rfl (fun _ => Ex.mv rfl) ?_
        refine WP.p rfl rfl rfl rfl (fun _ => Ex.sub rfl rfl (c := ((i - 1 : Nat) : Int)) (by rw [i64w _ (by omega) (by omega)]; omega)) ?_
        refine WP.p rfl rfl rfl rfl (fun _ => Ex.mv rfl) ?_
        refine WP.p rfl rfl rfl rfl (fun _ => Ex.nilc rfl) ?_
        refine WP.p rfl rfl rfl rfl (fun _ => Ex.fa fl130_1 rfl) ?_
        refine WP.p rfl rfl rfl rfl (fun _ => Ex.mv rfl) ?_
        refine WP.p rfl rfl rfl rfl (fun _ => Ex.sub rfl rfl (c := ((i - 1 : Nat) : Int)) (by rw [i64w _ (by omega) (by omega)]; omega)) ?_
        refine WP.q (Keep.refl _ _) rfl rfl rfl rfl (fun w' hS => Ex.load ty39 rfl (hS.cell (M98.cell (i := 0) (v := (.slice (some ⟨ge, 0, none⟩) (d + 1) (d + 1))) rfl rfl) (fun f => f))) ?_
        refine WP.q (Keep.refl _ _) rfl rfl rfl rfl (fun w' hS => Ex.load ty39 rfl (hS.cell (M98.cell (i := 0) (v := (.slice (some ⟨ge, 0, none⟩) (d + 1) (d + 1))) rfl rfl) (fun f => f))) ?_
        refine WP.p rfl rfl rfl rfl (fun _ => Ex.ia Tryd.underlying39 sz31 rfl rfl ⟨by omega, by omega⟩) ?_
        refine WP.q (Keep.refl _ _) rfl rfl rfl rfl (fun w' hS => Ex.loadA ty31 rfl (l := bytesV (emp dNode e0 (i - 1))) (h32_len hp32) ((M98.rdt (i := 2) rfl (flat_at (fun a ha => h32_len (fillE_len _ _ a ha)) (fillE_get (j := i - 1) (by omega) (by omega)) (by simp))).keep0 hS)) ?_
        refine WP.q (Keep.refl _ _) rfl rfl rfl rfl (fun w' hS => Ex.load ty39 rfl (hS.cell (M98.cell (i := 0) (v := (.slice (some ⟨ge, 0, none⟩) (d + 1) (d + 1))) rfl rfl) (fun f => f))) ?_
        refine WP.p rfl rfl rfl rfl (fun _ => Ex.ia Tryd.underlying39 sz31 rfl rfl ⟨by omega, by omega⟩) ?_
        refine WP.q (Keep.refl _ _) rfl rfl rfl rfl (fun w' hS => Ex.loadA ty31 rfl (l := bytesV (emp dNode e0 (i - 1))) (h32_len hp32) ((M98.rdt (i := 2) rfl (flat_at (fun a ha => h32_len (fillE_len _ _ a ha)) (fillE_get (j := i - 1) (by omega) (by omega)) (by simp))).keep0 hS)) ?_
        refine WP.as rfl rfl rfl rfl (Ac.call rfl Tryd.func74 nm74 rfl (node_ok w98 _ _ hp32 hp32 (hT.keep M98.keep))) ?_; rintro v120 w120 ⟨rfl, K120⟩
        refine ⟨Keep nof w120, fun u h => K120.trans h, Keep.refl _ _, ?_⟩
        rw [show dNode (emp dNode e0 (i - 1)) (emp dNode e0 (i - 1)) = emp dNode e0 i by obtain ⟨m, rfl⟩ : ∃ m, i = m + 1 := ⟨i - 1, by omega⟩; rfl]
        have M120 := M98.step K120
        refine WP.p rfl rfl rfl rfl (fun _ => Ex.ia Tryd.underlying39 sz31 rfl rfl ⟨by omega, by omega⟩) ?_
        refine WP.a0 rfl rfl rfl (Ac.stA M120 ty31 rfl rfl (vs := bytesV (emp dNode e0 i)) rfl (h32_len (emp32 i)) (bytesV_one _) (i := 2) rfl (by rw [h32_len (emp32 i), fl_len (fillE_len _ _)]; simp; omega)) ?_; rintro v122 w122 ⟨K122, M122⟩; refine .inl ⟨rfl, Keep nof w122, ?_⟩
        try dsimp only [List.set] at M122
        rw [fl, flat_set (fun a ha => h32_len (fillE_len (d + 1) i a ha)) (h32_len (emp32 i)) (i := i) (by simp; omega) (by simp)] at M122
        rw [show (fillTo (d + 1) i (emp dNode e0) (List.replicate 32 0)).set i (emp dNode e0 i) = fillTo (d + 1) (i + 1) (emp dNode e0) (List.replicate 32 0) from fillTo_set (d + 1) i (emp dNode e0) _] at M122
        refine WP.nil ?_
        refine WX.normal_block (WX.next (?_))
        refine WC.region ?_
        refine WL.ex rfl rfl rfl (Ex.add rfl rfl (i64w _ (by omega) (by omega))) ?_
        refine WL.ex rfl rfl rfl (Ex.mv rfl) ?_
        refine WL.nil ?_
        refine WX.again (i + 1) ?_ ?_ (.cons rfl (.cons rfl (.cons rfl (.nil))))
        · (try dsimp only); omega
        · exact ⟨by omega, M122⟩
    · obtain rfl : i = d + 1 := by omega
      rw [fillTo_full (d + 1) (d + 1) (Nat.le_refl _)] at M81
      refine WC.exit ?_
      refine WX.exit_then (WX.exit_then (WX.exit_block (WX.next (?_))))
      refine WC.seq ?_
      refine WC.region ?_
      refine WL.ex rfl rfl rfl (Ex.mv rfl) ?_
      refine WL.ex rfl rfl rfl (Ex.asg rfl) ?_
      refine WL.nil ?_
      refine WX.next (?_)
      refine WC.ret ?_
      refine WX.ret1 rfl rfl ?_
      have Mv := M81.free (r := levR (nilS (d + 1)) (lvOf dNode e0 d []) 31) (by rw [lvOf_nil]; exact lev_none _ _ _) (levn_fp _ _ _)
      have Ma : Mem w w81 nof [blk g (tC gl ge d) 130, blk gl (nilS (d + 1)) 39, levR (nilS (d + 1)) (lvOf dNode e0 d []) 31, blk ge (fl (emps dNode e0 (d + 1))) 31] := Mv.pick [1, 2, 0, 3] (by decide) rfl
      have Mb := Ma.closeS.closeS
      have Mc : Mem w w81 nof [blk ge (fl (emps dNode e0 (d + 1))) 31, treeR g gl ge d (nilS (d + 1)) (lvOf dNode e0 d [])] := Mb.pick [1, 0] (by decide) rfl
      exact ⟨g, gl, ge, rfl, Mc.closeS.toNew⟩

end Go.Proofs.YtchmjpdkonfifaaDoor
