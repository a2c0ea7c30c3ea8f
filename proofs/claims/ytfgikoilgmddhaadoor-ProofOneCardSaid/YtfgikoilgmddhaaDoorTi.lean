/- Walks, written by gen.py off the translation's own print: each says what the Go function comes to. -/
import Derived.Test.YtfgikoilgmddhaaDoorTg
set_option linter.unusedVariables false
set_option linter.unusedSimpArgs false
namespace Go.Proofs.YtfgikoilgmddhaaDoor
open Go.Sx Go.RowKit
attribute [local irreducible] Ac Ex WL WC WX WP Gives sha

/- (*sponsion/tree.Tree).Copy -/
theorem tCopy_ok (w : World) (g gl ge d : Nat) (vs : List Value) (ls : Hs) (hTr : TreeS w g gl ge d vs (lvOf dNode e0 d ls)) (hls : ∀ a ∈ ls, H32 a) (hd : d ≤ 32) (hb : ls.length ≤ 1099511627776) :
    Gives Tryd.prog 31 #[.pointer (some ⟨g, 0, none⟩)] w fun u w1 => ∃ g1 gl1 vs1, u = .pointer (some ⟨g1, 0, none⟩) ∧ New w w1 (treeR g1 gl1 ge d vs1 (lvOf dNode e0 d ls)) := by
  have M0 := Mem.start w nof
  refine Gives.enter (n := 43) Tryd.func31 rfl Tryd.ntmps31 rfl (env := [(0, .pointer (some ⟨g, 0, none⟩))]) rfl ?_
  refine WC.seq ?_
  refine WC.region ?_
  refine WL.ex rfl rfl rfl (Ex.asg rfl) ?_
  refine WL.nil ?_
  refine WX.next (?_)
  refine WC.seq ?_
  refine WC.seq ?_
  refine WC.region ?_
  refine WL.ex rfl rfl rfl (Ex.mv rfl) ?_
  refine WL.ex rfl rfl rfl (Ex.eqPn Tryd.underlying25 rfl) ?_
  refine WL.nil ?_
  refine WX.next (?_)
  refine WC.no rfl ?_
  refine WC.skip ?_
  refine WX.next (?_)
  refine WC.seq ?_
  refine WC.draw (Keep nof w.drew) [] (.one 0 0 (.one 1 0 (.one 2 0 (.one 6 0 (.one 7 0 (.one 8 0 (.one 3 1 (.one 4 0 (.one 9 1 (.one 5 2 (.one 10 0 (.one 11 2 (.one 12 0 .nil))))))))))))) mixed (by kernel_rfl) (by kernel_rfl) (by kernel_rfl) (HQ.then_ HQ.body) ?_
  obtain ⟨w4, hw4⟩ : ∃ v, v = w.drew := ⟨_, rfl⟩
  have D4 : Keep nof w w4 := by rw [hw4]; exact Keep.drew _ _
  have M4 := M0.step D4
  rw [← hw4]; clear hw4
  refine WP.p rfl rfl rfl rfl (fun _ => Ex.mv rfl) ?_
  refine WP.p rfl rfl rfl rfl (fun _ => Ex.nilc rfl) ?_
  refine WP.p rfl rfl rfl rfl (fun _ => Ex.fa fl71_0 rfl) ?_
  refine WP.p rfl rfl rfl rfl (fun _ => Ex.mv rfl) ?_
  refine WP.p rfl rfl rfl rfl (fun _ => Ex.nilc rfl) ?_
  refine WP.p rfl rfl rfl rfl (fun _ => Ex.fa fl71_1 rfl) ?_
  refine WP.q (Keep.refl _ _) rfl rfl rfl rfl (fun w' hS => Ex.load ty69 rfl (hTr.keep (M4.keep.trans hS)).c0) ?_
  refine WP.p rfl rfl rfl rfl (fun _ => Ex.len Tryd.underlying69 rfl) ?_
  refine WP.q (Keep.refl _ _) rfl rfl rfl rfl (fun w' hS => Ex.load ty22 rfl (hTr.keep (M4.keep.trans hS)).c1) ?_
  refine WP.as rfl rfl rfl rfl (Ac.mk M4 el69 rfl rfl (m := d + 1) rfl rfl (by omega) (by unfold maxLen; omega) (zs := [.slice none 0 0]) (by kernel_rfl)) ?_; rintro v14 w14 ⟨gl1, rfl, hg14, K14, M14⟩
  refine ⟨Keep nof w14, fun u h => K14.trans h, Keep.refl _ _, ?_⟩
  rw [Nat.mul_one, made1] at M14
  replace M14 := M14.rblk (i := 0) rfl
  try dsimp only [List.set] at M14
  refine WP.p rfl rfl rfl rfl (fun _ => Ex.bldS bd71 (parts := [(0, .tmp 12), (1, .tmp 16)]) [[.slice (some ⟨gl1, 0, none⟩) (d + 1) (d + 1)], [.slice (some ⟨ge, 0, none⟩) (d + 1) (d + 1)]] (l := tC gl1 ge d) rfl rfl rfl ⟨0, 1, rfl, rfl, rfl, by simp, 1, 1, rfl, rfl, rfl, by simp [splice], rfl⟩) ?_
  refine WP.as rfl rfl rfl rfl (Ac.box M14 (l := tC gl1 ge d) rfl rfl) ?_; rintro v16 w16 ⟨g1, rfl, hg16, K16, M16⟩
  refine ⟨Keep nof w16, fun u h => K16.trans h, Keep.refl _ _, ?_⟩
  refine WP.p rfl rfl rfl rfl (fun _ => Ex.asg rfl) ?_
  refine WP.nil ?_
  refine WX.next (?_)
  refine WC.seq ?_
  refine WC.seq ?_
  refine WC.region ?_
  refine WL.ex rfl rfl rfl (Ex.mv rfl) ?_
  refine WL.ex rfl rfl rfl (Ex.nilc rfl) ?_
  refine WL.ex rfl rfl rfl (Ex.fa fl71_0 rfl) ?_
  refine WL.ex rfl rfl rfl (Ex.load ty69 rfl (hTr.keep M16.keep).c0) ?_
  refine WL.ex rfl rfl rfl (Ex.len Tryd.underlying69 rfl) ?_
  refine WL.ex rfl rfl rfl (Ex.mv rfl) ?_
  refine WL.nil ?_
  refine WX.next (?_)
  refine WC.block ?_
  refine WC.loop (σ := Nat × List Value) (fun s => [(0, .pointer (some ⟨g, 0, none⟩)), (3, .pointer (some ⟨g1, 0, none⟩)), (23, .int .i64 ((d + 1 : Nat) : Int)), (24, .int .i64 (s.1 : Int))]) (fun s wr => s.1 ≤ d + 1 ∧ s.2.length = d + 1 ∧ (∀ j, s.1 ≤ j → j < d + 1 → s.2[j]? = some (.slice none 0 0)) ∧ Mem w wr nof [blk g1 (tC gl1 ge d) 71, blk gl1 s.2 22, levR s.2 (lvM dNode e0 d [] ls s.1) 28]) (fun s => d + 1 - s.1) (((0, nilS (d + 1)) : Nat × List Value)) ?_ (.cons rfl (.cons rfl (.cons rfl (.cons rfl (.nil))))) ?_
  · have Mv := M16.free (r := levR (nilS (d + 1)) (lvM dNode e0 d [] ls 0) 28) (by rw [lvM_zero, lvOf_nil]; exact lev_none _ _ _) (levn_fp _ _ _)
    have Ma : Mem w w16 nof [blk g1 (tC gl1 ge d) 71, blk gl1 (nilS (d + 1)) 22, levR (nilS (d + 1)) (lvM dNode e0 d [] ls 0) 28] := Mv.pick [1, 2, 0] (by decide) rfl
    exact ⟨by simp, by simp [nilS], fun j _ hj => by rw [nilS, List.getElem?_replicate, if_pos hj], Ma⟩
  rintro ⟨i, vs1⟩ w24 ⟨hi, hv1, hnil, M24⟩
  dsimp only at hi hv1 hnil M24
  refine WC.sub (env' := [(0, .pointer (some ⟨g, 0, none⟩)), (3, .pointer (some ⟨g1, 0, none⟩)), (23, .int .i64 ((d + 1 : Nat) : Int)), (24, .int .i64 (i : Int))]) (.cons rfl (.cons rfl (.cons rfl (.cons rfl (.nil))))) ?_
  refine WC.seq ?_
  refine WC.region ?_
  refine WL.ex rfl rfl rfl (Ex.lss rfl rfl) ?_
  refine WL.nil ?_
  refine WX.next (?_)
  refine WC.seq ?_
  refine WC.cond_dec rfl (fun h25 => ?_) (fun h25 => ?_)
  · obtain ⟨Ak, ck, hvk, hrk, _, _⟩ := hTr.at (lvOf_get (j := i) (by omega))
    have hlen := levOf_len (N := dNode) (e := e0) ls i
    have hdl := Nat.div_le_self ls.length (2 ^ i)
    have hset := lvM_set (N := dNode) (e := e0) (d := d) (ls := []) (ls' := ls) (k := i) (by omega)
    refine WC.skip ?_
    refine WX.next (?_)
    refine WC.seq ?_
    refine WC.block ?_
    refine WC.seq ?_
    refine WC.region ?_
    refine WL.ex rfl rfl rfl (Ex.mv rfl) ?_
    refine WL.ex rfl rfl rfl (Ex.asg rfl) ?_
    refine WL.nil ?_
    refine WX.next (?_)
    refine WC.draw (Keep nof w24.drew) [14] (.one 0 0 (.one 1 0 (.one 2 0 (.one 4 0 (.one 5 0 (.one 6 0 (.one 7 0 (.one 9 0 (.one 3 1 (.one 8 1 (.one 10 0 (.one 11 1 (.one 12 2 (.one 13 0 (.one 14 2 .nil))))))))))))))) mixed (by kernel_rfl) (by kernel_rfl) (by kernel_rfl) (HQ.block (HQ.then_ (HQ.then_ (HQ.block (HQ.then_ HQ.body))))) ?_
    obtain ⟨w28, hw28⟩ : ∃ v, v = w24.drew := ⟨_, rfl⟩
    have D28 : Keep nof w24 w28 := by rw [hw28]; exact Keep.drew _ _
    have M28 := M24.step D28
    rw [← hw28]; clear hw28
    refine WP.p rfl rfl rfl rfl (fun _ => Ex.mv rfl) ?_
    refine WP.p rfl rfl rfl rfl (fun _ => Ex.nilc rfl) ?_
    refine WP.p rfl rfl rfl rfl (fun _ => Ex.fa fl71_0 rfl) ?_
    refine WP.p rfl rfl rfl rfl (fun _ => Ex.mv rfl) ?_
    refine WP.p rfl rfl rfl rfl (fun _ => Ex.mv rfl) ?_
    refine WP.p rfl rfl rfl rfl (fun _ => Ex.nilc rfl) ?_
    refine WP.p rfl rfl rfl rfl (fun _ => Ex.fa fl71_0 rfl) ?_
    refine WP.p rfl rfl rfl rfl (fun _ => Ex.mv rfl) ?_
    refine WP.q (Keep.refl _ _) rfl rfl rfl rfl (fun w' hS => Ex.load ty69 rfl (hS.cell (M28.cell (i := 0) (v := .slice (some ⟨gl1, 0, none⟩) (d + 1) (d + 1)) rfl rfl) (fun f => f))) ?_
    refine WP.q (Keep.refl _ _) rfl rfl rfl rfl (fun w' hS => Ex.load ty69 rfl (hTr.keep (M28.keep.trans hS)).c0) ?_
    refine WP.p rfl rfl rfl rfl (fun _ => Ex.ia Tryd.underlying69 sz22 rfl rfl ⟨by omega, by omega⟩) ?_
    refine WP.q (Keep.refl _ _) rfl rfl rfl rfl (fun w' hS => Ex.load ty22 rfl ((hTr.keep (M28.keep.trans hS)).ck hvk (by simp))) ?_
    refine WP.as rfl rfl rfl rfl (Ac.call rfl Tryd.func39 nm39 rfl (cloneH_ok w28 _ _ _ (hrk.keep0 M28.keep) (lev32 hls i) (by omega))) ?_; rintro v41 w41 N41
    refine ⟨Keep nof w41, fun u h => N41.keep.trans h, Keep.refl _ _, ?_⟩
    have M41 := M28.new N41
    obtain ⟨Au, cu, rfl⟩ := own_slice (M41.get (i := 0) rfl)
    refine WP.p rfl rfl rfl rfl (fun _ => Ex.ia Tryd.underlying69 sz22 rfl rfl ⟨by omega, by omega⟩) ?_
    refine WP.a0 rfl rfl rfl (Ac.st M41 ty22 rfl rfl rfl (i := 2) rfl (by simp; omega)) ?_; rintro v43 w43 ⟨K43, M43⟩; refine .inl ⟨rfl, Keep nof w43, ?_⟩
    try dsimp only [List.set] at M43
    simp only [Int.toNat_natCast, Nat.mul_one, Nat.zero_add] at M43
    have Mp : Mem w w43 nof [row (.slice Au (levOf dNode e0 ls i).length cu) 28 32 (levOf dNode e0 ls i).length (fl (levOf dNode e0 ls i)), levR vs1 (lvM dNode e0 d [] ls i) 28, blk g1 (tC gl1 ge d) 71, blk gl1 (vs1.set i (.slice Au (levOf dNode e0 ls i).length cu)) 22] := M43.pick [0, 3, 1, 2] (by decide) rfl
    have Mq := Mp.putL rfl (hnil i (Nat.le_refl _) (by omega)) (by rw [lvM_len]; omega) rfl
    rw [hset] at Mq
    replace M43 : Mem w w43 nof [blk g1 (tC gl1 ge d) 71, blk gl1 (vs1.set i (.slice Au (levOf dNode e0 ls i).length cu)) 22, levR (vs1.set i (.slice Au (levOf dNode e0 ls i).length cu)) (lvM dNode e0 d [] ls (i + 1)) 28] := Mq.pick [1, 2, 0] (by decide) rfl
    refine WP.nil ?_
    refine WX.normal_block (WX.next (?_))
    refine WC.region ?_
    refine WL.ex rfl rfl rfl (Ex.add rfl rfl (i64w _ (by omega) (by omega))) ?_
    refine WL.ex rfl rfl rfl (Ex.mv rfl) ?_
    refine WL.nil ?_
    refine WX.again (((i + 1, vs1.set i (.slice Au (levOf dNode e0 ls i).length cu)) : Nat × List Value)) ?_ ?_ (.cons rfl (.cons rfl (.cons rfl (.cons rfl (.nil)))))
    · dsimp only; omega
    · exact ⟨by dsimp only; omega, by simp [hv1], fun j h1 h2 => by dsimp only at h1 ⊢; rw [List.getElem?_set_ne (by omega)]; exact hnil j (by omega) h2, M43⟩
  · obtain rfl : i = d + 1 := by omega
    rw [lvM_full (fun j h1 h2 => by omega)] at M24
    refine WC.exit ?_
    refine WX.exit_then (WX.exit_then (WX.exit_block (WX.next (?_))))
    refine WC.seq ?_
    refine WC.region ?_
    refine WL.ex rfl rfl rfl (Ex.mv rfl) ?_
    refine WL.ex rfl rfl rfl (Ex.asg rfl) ?_
    refine WL.nil ?_
    refine WX.next (?_)
    refine WC.ret ?_
    refine WX.ret1 rfl rfl ?_
    exact ⟨g1, gl1, _, rfl, (Mem.closeS (Mem.closeS M24)).toNew⟩

/- (*sponsion/tree.Tree).Len#nil -/
theorem nLen_ok (w : World) :
    Gives Tryd.prog 16 #[.pointer none] w fun u w1 => u = .int .u64 0 ∧ Keep nof w w1 := by
  have M0 := Mem.start w nof
  refine Gives.enter (n := 13) Tryd.func16 rfl Tryd.ntmps16 rfl (env := [(0, .pointer none)]) rfl ?_
  refine WC.seq ?_
  refine WC.region ?_
  refine WL.ex rfl rfl rfl (Ex.asg rfl) ?_
  refine WL.nil ?_
  refine WX.next (?_)
  refine WC.seq ?_
  refine WC.seq ?_
  refine WC.region ?_
  refine WL.ex rfl rfl rfl (Ex.mv rfl) ?_
  refine WL.ex rfl rfl rfl (Ex.eqPn Tryd.underlying25 rfl) ?_
  refine WL.nil ?_
  refine WX.next (?_)
  refine WC.yes rfl ?_
  refine WC.seq ?_
  refine WC.region ?_
  refine WL.ex rfl rfl rfl (Ex.asg rfl) ?_
  refine WL.nil ?_
  refine WX.next (?_)
  refine WC.ret ?_
  refine WX.ret_then (?_)
  refine WX.ret1 rfl rfl ?_
  exact ⟨rfl, M0.keep⟩

/- (*sponsion/tree.Tree).Depth#nil -/
theorem nDepth_ok (w : World) :
    Gives Tryd.prog 28 #[.pointer none] w fun u w1 => u = .int .i64 0 ∧ Keep nof w w1 := by
  have M0 := Mem.start w nof
  refine Gives.enter (n := 11) Tryd.func28 rfl Tryd.ntmps28 rfl (env := [(0, .pointer none)]) rfl ?_
  refine WC.seq ?_
  refine WC.region ?_
  refine WL.ex rfl rfl rfl (Ex.asg rfl) ?_
  refine WL.nil ?_
  refine WX.next (?_)
  refine WC.seq ?_
  refine WC.seq ?_
  refine WC.region ?_
  refine WL.ex rfl rfl rfl (Ex.mv rfl) ?_
  refine WL.ex rfl rfl rfl (Ex.eqPn Tryd.underlying25 rfl) ?_
  refine WL.nil ?_
  refine WX.next (?_)
  refine WC.yes rfl ?_
  refine WC.seq ?_
  refine WC.region ?_
  refine WL.ex rfl rfl rfl (Ex.asg rfl) ?_
  refine WL.nil ?_
  refine WX.next (?_)
  refine WC.ret ?_
  refine WX.ret_then (?_)
  refine WX.ret1 rfl rfl ?_
  exact ⟨rfl, M0.keep⟩

/- (*sponsion/tree.Tree).Append#nil -/
theorem nApp_ok (w : World) (h : List UInt8) (hh : H32 h) :
    Gives Tryd.prog 13 #[.pointer none, .agg (bytesV h).toArray] w fun u w1 => u = .tuple #[.int .u64 0, .int .i64 1] ∧ Keep nof w w1 := by
  have M0 := Mem.start w nof
  refine Gives.enter (n := 77) Tryd.func13 rfl Tryd.ntmps13 rfl (env := [(0, .pointer none), (1, .agg (bytesV h).toArray)]) rfl ?_
  refine WC.seq ?_
  refine WC.region ?_
  refine WL.ac rfl rfl rfl (Ac.box M0 rfl rfl) ?_; rintro v1 w1 ⟨g1, rfl, hg1, K1, M1⟩
  refine WL.ex rfl rfl rfl (Ex.asg rfl) ?_
  refine WL.ex rfl rfl rfl (Ex.asg rfl) ?_
  refine WL.nil ?_
  refine WX.next (?_)
  refine WC.scope ?_
  refine WC.seq ?_
  refine WC.seq ?_
  refine WC.region ?_
  refine WL.ex rfl rfl rfl (Ex.mv rfl) ?_
  refine WL.ex rfl rfl rfl (Ex.eqPn Tryd.underlying25 rfl) ?_
  refine WL.nil ?_
  refine WX.next (?_)
  refine WC.yes rfl ?_
  refine WC.seq ?_
  refine WC.region ?_
  refine WL.ex rfl rfl rfl (Ex.asg rfl) ?_
  refine WL.ex rfl rfl rfl (Ex.asg rfl) ?_
  refine WL.nil ?_
  refine WX.next (?_)
  refine WC.ret ?_
  refine WX.ret_then (WX.ret_scope (?_))
  refine WX.ret2 rfl rfl rfl ?_
  exact ⟨rfl, M1.keep⟩
  -- UNUSED HINTS ['plainscope']

/- (*sponsion/tree.Tree).Cut#nil -/
theorem nCut_ok (w : World) (n : Nat) :
    Gives Tryd.prog 15 #[.pointer none, .int .u64 (n : Int)] w fun u w1 => u = .bool false ∧ Keep nof w w1 := by
  have M0 := Mem.start w nof
  refine Gives.enter (n := 40) Tryd.func15 rfl Tryd.ntmps15 rfl (env := [(0, .pointer none), (1, .int .u64 (n : Int))]) rfl ?_
  refine WC.seq ?_
  refine WC.region ?_
  refine WL.ex rfl rfl rfl (Ex.asg rfl) ?_
  refine WL.nil ?_
  refine WX.next (?_)
  refine WC.seq ?_
  refine WC.seq ?_
  refine WC.region ?_
  refine WL.ex rfl rfl rfl (Ex.mv rfl) ?_
  refine WL.ex rfl rfl rfl (Ex.eqPn Tryd.underlying25 rfl) ?_
  refine WL.ex rfl rfl rfl (Ex.mv rfl) ?_
  refine WL.no rfl rfl rfl rfl rfl rfl ?_
  refine WL.no rfl rfl rfl rfl rfl rfl ?_
  refine WL.no rfl rfl rfl rfl rfl rfl ?_
  refine WL.no rfl rfl rfl rfl rfl rfl ?_
  refine WL.ex rfl rfl rfl (Ex.pickT rfl rfl) ?_
  refine WL.nil ?_
  refine WX.next (?_)
  refine WC.yes rfl ?_
  refine WC.seq ?_
  refine WC.region ?_
  refine WL.ex rfl rfl rfl (Ex.asg rfl) ?_
  refine WL.nil ?_
  refine WX.next (?_)
  refine WC.ret ?_
  refine WX.ret_then (?_)
  refine WX.ret1 rfl rfl ?_
  exact ⟨rfl, M0.keep⟩

/- (*sponsion/tree.Tree).Copy#nil -/
theorem nCopy_ok (w : World) :
    Gives Tryd.prog 31 #[.pointer none] w fun u w1 => u = .pointer none ∧ Keep nof w w1 := by
  have M0 := Mem.start w nof
  refine Gives.enter (n := 43) Tryd.func31 rfl Tryd.ntmps31 rfl (env := [(0, .pointer none)]) rfl ?_
  refine WC.seq ?_
  refine WC.region ?_
  refine WL.ex rfl rfl rfl (Ex.asg rfl) ?_
  refine WL.nil ?_
  refine WX.next (?_)
  refine WC.seq ?_
  refine WC.seq ?_
  refine WC.region ?_
  refine WL.ex rfl rfl rfl (Ex.mv rfl) ?_
  refine WL.ex rfl rfl rfl (Ex.eqPn Tryd.underlying25 rfl) ?_
  refine WL.nil ?_
  refine WX.next (?_)
  refine WC.yes rfl ?_
  refine WC.seq ?_
  refine WC.region ?_
  refine WL.ex rfl rfl rfl (Ex.asg rfl) ?_
  refine WL.nil ?_
  refine WX.next (?_)
  refine WC.ret ?_
  refine WX.ret_then (?_)
  refine WX.ret1 rfl rfl ?_
  exact ⟨rfl, M0.keep⟩

/- (*sponsion/tree.Tree).Leaf#nil -/
theorem nLeaf_ok (w : World) (n : Nat) :
    Gives Tryd.prog 29 #[.pointer none, .int .u64 (n : Int)] w fun u w1 => u = .tuple #[.agg (bytesV (List.replicate 32 0)).toArray, .bool false] ∧ Keep nof w w1 := by
  have M0 := Mem.start w nof
  refine Gives.enter (n := 20) Tryd.func29 rfl Tryd.ntmps29 rfl (env := [(0, .pointer none), (1, .int .u64 (n : Int))]) rfl ?_
  refine WC.seq ?_
  refine WC.region ?_
  refine WL.ac rfl rfl rfl (Ac.alloc M0 (l := bytesV (List.replicate 32 0)) (by kernel_rfl)) ?_; rintro v1 w1 ⟨go, rfl, hg1, K1, M1⟩
  refine WL.ex rfl rfl rfl (Ex.asg rfl) ?_
  refine WL.nil ?_
  refine WX.next (?_)
  refine WC.seq ?_
  refine WC.seq ?_
  refine WC.region ?_
  refine WL.ex rfl rfl rfl (Ex.mv rfl) ?_
  refine WL.ex rfl rfl rfl (Ex.mv rfl) ?_
  refine WL.ac rfl rfl rfl (Ac.call rfl Tryd.func16 nm16 rfl (nLen_ok w1)) ?_; rintro v5 w5 ⟨rfl, K5⟩
  have M5 := M1.step K5
  refine WL.ex rfl rfl rfl (Ex.geq rfl rfl) ?_
  refine WL.nil ?_
  refine WX.next (?_)
  refine WC.cond_dec rfl (fun h9 => ?_) (fun h9 => ?_)
  · skip
    refine WC.seq ?_
    refine WC.region ?_
    refine WL.ex rfl rfl rfl (Ex.bld bd28 (parts := []) (l := bytesV (List.replicate 32 0)) rfl rfl rfl rfl) ?_
    refine WL.ac0 rfl rfl (Ac.stA M5 ty28 rfl rfl rfl (h32_len (by first | assumption | exact h32_0)) (bytesV_one _) (i := 0) rfl (by first | (rw [h32_len (by first | assumption | exact h32_0), h32_len (by first | assumption | exact h32_0)]; decide) | (rw [h32_len (by first | assumption | exact h32_0)]; decide) | rw [h32_len (by first | assumption | exact h32_0)])) ?_; rintro v8 w8 ⟨K8, M8⟩
    try dsimp only [List.set] at M8
    rw [splice_all _ _ (by first | rw [h32_len (by first | assumption | exact h32_0), h32_len (by first | assumption | exact h32_0)] | rw [h32_len (by first | assumption | exact h32_0)])] at M8
    refine WL.ex rfl rfl rfl (Ex.asg rfl) ?_
    refine WL.nil ?_
    refine WX.next (?_)
    refine WC.ret ?_
    refine WX.ret_then (?_)
    refine WX.retn rfl (.cell rfl (run_loadVarA ty28 (h32_len (by first | assumption | exact h32_0)) (M8.rdw (i := 0) rfl)) (.tmp rfl .nil)) rfl ?_
    exact ⟨rfl, M8.keep⟩
  · exact absurd (show (0 : Int) ≤ (n : Int) by omega) h9

/- (*sponsion/tree.Tree).Node#nil -/
theorem nNode_ok (w : World) (n : Nat) (z : Int) (p : Nat) :
    Gives Tryd.prog 23 #[.pointer none, .int .u64 (n : Int), .int .i64 z, .int .u64 (p : Int)] w fun u w1 => u = .tuple #[.agg (bytesV (List.replicate 32 0)).toArray, .bool false] ∧ Keep nof w w1 := by
  have M0 := Mem.start w nof
  refine Gives.enter (n := 71) Tryd.func23 rfl Tryd.ntmps23 rfl (env := [(0, .pointer none), (1, .int .u64 (n : Int)), (2, .int .i64 z), (3, .int .u64 (p : Int))]) rfl ?_
  refine WC.seq ?_
  refine WC.region ?_
  refine WL.ac rfl rfl rfl (Ac.alloc M0 (l := bytesV (List.replicate 32 0)) (by kernel_rfl)) ?_; rintro v1 w1 ⟨go, rfl, hg1, K1, M1⟩
  refine WL.ex rfl rfl rfl (Ex.asg rfl) ?_
  refine WL.nil ?_
  refine WX.next (?_)
  refine WC.seq ?_
  refine WC.seq ?_
  refine WC.region ?_
  refine WL.ex rfl rfl rfl (Ex.mv rfl) ?_
  refine WL.ex rfl rfl rfl (Ex.eqPn Tryd.underlying25 rfl) ?_
  refine WL.ex rfl rfl rfl (Ex.mv rfl) ?_
  refine WL.no rfl rfl rfl rfl rfl rfl ?_
  refine WL.no rfl rfl rfl rfl rfl rfl ?_
  refine WL.no rfl rfl rfl rfl rfl rfl ?_
  refine WL.no rfl rfl rfl rfl rfl rfl ?_
  refine WL.ex rfl rfl rfl (Ex.pickT rfl rfl) ?_
  refine WL.ex rfl rfl rfl (Ex.mv rfl) ?_
  refine WL.no rfl rfl rfl rfl rfl rfl ?_
  refine WL.no rfl rfl rfl rfl rfl rfl ?_
  refine WL.ex rfl rfl rfl (Ex.pickT rfl rfl) ?_
  refine WL.ex rfl rfl rfl (Ex.mv rfl) ?_
  refine WL.no rfl rfl rfl rfl rfl rfl ?_
  refine WL.no rfl rfl rfl rfl rfl rfl ?_
  refine WL.no rfl rfl rfl rfl rfl rfl ?_
  refine WL.no rfl rfl rfl rfl rfl rfl ?_
  refine WL.ex rfl rfl rfl (Ex.pickT rfl rfl) ?_
  refine WL.ex rfl rfl rfl (Ex.mv rfl) ?_
  refine WL.no rfl rfl rfl rfl rfl rfl ?_
  refine WL.no rfl rfl rfl rfl rfl rfl ?_
  refine WL.no rfl rfl rfl rfl rfl rfl ?_
  refine WL.no rfl rfl rfl rfl rfl rfl ?_
  refine WL.no rfl rfl rfl rfl rfl rfl ?_
  refine WL.no rfl rfl rfl rfl rfl rfl ?_
  refine WL.no rfl rfl rfl rfl rfl rfl ?_
  refine WL.ex rfl rfl rfl (Ex.pickT rfl rfl) ?_
  refine WL.nil ?_
  refine WX.next (?_)
  refine WC.yes rfl ?_
  refine WC.seq ?_
  refine WC.region ?_
  refine WL.ex rfl rfl rfl (Ex.bld bd28 (parts := []) (l := bytesV (List.replicate 32 0)) rfl rfl rfl rfl) ?_
  refine WL.ac0 rfl rfl (Ac.stA M1 ty28 rfl rfl rfl (h32_len (by first | assumption | exact h32_0)) (bytesV_one _) (i := 0) rfl (by first | (rw [h32_len (by first | assumption | exact h32_0), h32_len (by first | assumption | exact h32_0)]; decide) | (rw [h32_len (by first | assumption | exact h32_0)]; decide) | rw [h32_len (by first | assumption | exact h32_0)])) ?_; rintro v14 w14 ⟨K14, M14⟩
  try dsimp only [List.set] at M14
  rw [splice_all _ _ (by first | rw [h32_len (by first | assumption | exact h32_0), h32_len (by first | assumption | exact h32_0)] | rw [h32_len (by first | assumption | exact h32_0)])] at M14
  refine WL.ex rfl rfl rfl (Ex.asg rfl) ?_
  refine WL.nil ?_
  refine WX.next (?_)
  refine WC.ret ?_
  refine WX.ret_then (?_)
  refine WX.retn rfl (.cell rfl (run_loadVarA ty28 (h32_len (by first | assumption | exact h32_0)) (M14.rdw (i := 0) rfl)) (.tmp rfl .nil)) rfl ?_
  exact ⟨rfl, M14.keep⟩

/- (*sponsion/tree.Tree).Root#nil -/
theorem nRoot_ok (w : World) :
    Gives Tryd.prog 14 #[.pointer none] w fun u w1 => u = .agg (bytesV (List.replicate 32 0)).toArray ∧ Keep nof w w1 := by
  have M0 := Mem.start w nof
  refine Gives.enter (n := 15) Tryd.func14 rfl Tryd.ntmps14 rfl (env := [(0, .pointer none)]) rfl ?_
  refine WC.seq ?_
  refine WC.region ?_
  refine WL.ac rfl rfl rfl (Ac.alloc M0 (l := bytesV (List.replicate 32 0)) (by kernel_rfl)) ?_; rintro v1 w1 ⟨go, rfl, hg1, K1, M1⟩
  refine WL.nil ?_
  refine WX.next (?_)
  refine WC.seq ?_
  refine WC.region ?_
  refine WL.ex rfl rfl rfl (Ex.mv rfl) ?_
  refine WL.ex rfl rfl rfl (Ex.mv rfl) ?_
  refine WL.ac rfl rfl rfl (Ac.call rfl Tryd.func16 nm16 rfl (nLen_ok w1)) ?_; rintro v4 w4 ⟨rfl, K4⟩
  have M4 := M1.step K4
  refine WL.ex rfl rfl rfl (Ex.mv rfl) ?_
  refine WL.ac rfl rfl rfl (Ac.call rfl Tryd.func28 nm28 rfl (nDepth_ok w4)) ?_; rintro v6 w6 ⟨rfl, K6⟩
  have M6 := M4.step K6
  refine WL.ac rfl rfl rfl (Ac.call rfl Tryd.func23 nm23 rfl (nNode_ok w6 0 0 0)) ?_; rintro v7 w7 ⟨rfl, K7⟩
  have M7 := M6.step K7
  refine WL.ex rfl rfl rfl (Ex.mv rfl) ?_
  refine WL.ex rfl rfl rfl (Ex.ext rfl rfl) ?_
  refine WL.ex rfl rfl rfl (Ex.ext rfl rfl) ?_
  refine WL.ac rfl rfl rfl (Ac.alloc M7 (l := bytesV (List.replicate 32 0)) (by kernel_rfl)) ?_; rintro v11 w11 ⟨gr, rfl, hg11, K11, M11⟩
  refine WL.ac0 rfl rfl (Ac.stA M11 ty28 rfl rfl rfl (h32_len (by first | assumption | exact h32_0)) (bytesV_one _) (i := 0) rfl (by first | (rw [h32_len (by first | assumption | exact h32_0), h32_len (by first | assumption | exact h32_0)]; decide) | (rw [h32_len (by first | assumption | exact h32_0)]; decide) | rw [h32_len (by first | assumption | exact h32_0)])) ?_; rintro v12 w12 ⟨K12, M12⟩
  try dsimp only [List.set] at M12
  rw [splice_all _ _ (by first | rw [h32_len (by first | assumption | exact h32_0), h32_len (by first | assumption | exact h32_0)] | rw [h32_len (by first | assumption | exact h32_0)])] at M12
  refine WL.ex rfl rfl rfl (Ex.asg rfl) ?_
  refine WL.nil ?_
  refine WX.next (?_)
  refine WC.seq ?_
  refine WC.region ?_
  refine WL.ex rfl rfl rfl (Ex.loadA ty28 rfl (h32_len (by first | assumption | exact h32_0)) (M12.rdw (i := 0) rfl)) ?_
  refine WL.ac0 rfl rfl (Ac.stA M12 ty28 rfl rfl rfl (h32_len (by first | assumption | exact h32_0)) (bytesV_one _) (i := 1) rfl (by first | (rw [h32_len (by first | assumption | exact h32_0), h32_len (by first | assumption | exact h32_0)]; decide) | (rw [h32_len (by first | assumption | exact h32_0)]; decide) | rw [h32_len (by first | assumption | exact h32_0)])) ?_; rintro v15 w15 ⟨K15, M15⟩
  try dsimp only [List.set] at M15
  rw [splice_all _ _ (by first | rw [h32_len (by first | assumption | exact h32_0), h32_len (by first | assumption | exact h32_0)] | rw [h32_len (by first | assumption | exact h32_0)])] at M15
  refine WL.nil ?_
  refine WX.next (?_)
  refine WC.ret ?_
  refine WX.retc rfl rfl (run_loadVarA ty28 (h32_len (by first | assumption | exact h32_0)) (M15.rdw (i := 1) rfl)) ?_
  exact ⟨rfl, M15.keep⟩

end Go.Proofs.YtfgikoilgmddhaaDoor
