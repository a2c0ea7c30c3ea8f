/- Walks, written by gen.py off the translation's own print: each says what the Go function comes to. -/
import Derived.Test.YtfgikoilgmddhaaDoorVb
set_option linter.unusedVariables false
set_option linter.unusedSimpArgs false
namespace Go.Proofs.YtfgikoilgmddhaaDoor
open Go.Sx Go.RowKit
attribute [local irreducible] Ac Ex WL WC WX WP Gives sha

/- sponsion/sponsionlaw10.play -/
theorem play_ok (w : World) (g gl ge d : Nat) (vs : List Value) (A : Option Addr) (c : Nat) (acts : List Act) (hR : (treeR g gl ge d vs (lvOf dNode e0 d [])).sat w) (hE : ES w ge d) (hge : ge ∉ (treeR g gl ge d vs (lvOf dNode e0 d [])).fp) (hr : Rd w A (acts.flatMap actC)) (hok : ∀ a ∈ acts, ActOk a) (hrA : acts ≠ [] → ∀ b, A = some b → b.block ∉ (treeR g gl ge d vs (lvOf dNode e0 d [])).fp) (hn : acts.length ≤ 40) (hd : d ≤ 32) (hT : Tabs w) (hFT : ∀ b ∈ (treeR g gl ge d vs (lvOf dNode e0 d [])).fp, b ≠ 1 ∧ b ≠ 2) :
    Gives Tryd.prog 22 #[.pointer (some ⟨g, 0, none⟩), .int .i64 (d : Int), .slice A acts.length c] w fun u w1 => ∃ g1 gl1 vs1 A1 c1, ∃ ls : Hs, u = .tuple #[.pointer (some ⟨g1, 0, none⟩), .slice A1 ls.length c1, .bool true] ∧ (∀ a ∈ ls, H32 a) ∧ ls.length ≤ 40 ∧ ls.length ≤ c1 ∧ Turn w w1 (treeR g gl ge d vs (lvOf dNode e0 d [])) (sep (treeR g1 gl1 ge d vs1 (lvOf dNode e0 d ls)) (row (.slice A1 ls.length c1) 28 32 ls.length (fl ls))) := by
  have M0 := (Mem.begin hR).free (r := row (.slice none 0 0) 28 32 ([] : Hs).length (fl [])) (row_nil _ _ _) rfl
  have hp2 := pow32 hd
  refine Gives.enter (n := 120) Tryd.func22 rfl Tryd.ntmps22 rfl (env := [(0, .pointer (some ⟨g, 0, none⟩)), (1, .int .i64 (d : Int)), (2, .slice A acts.length c)]) rfl ?_
  refine WC.seq ?_
  refine WC.region ?_
  refine WL.ex rfl rfl rfl (Ex.asg rfl) ?_
  refine WL.ex rfl rfl rfl (Ex.asg rfl) ?_
  refine WL.ex rfl rfl rfl (Ex.asg rfl) ?_
  refine WL.nil ?_
  refine WX.next (?_)
  refine WC.seq ?_
  refine WC.region ?_
  refine WL.ex rfl rfl rfl (Ex.asg rfl) ?_
  refine WL.nil ?_
  refine WX.next (?_)
  refine WC.seq ?_
  refine WC.seq ?_
  refine WC.region ?_
  refine WL.ex rfl rfl rfl (Ex.mv rfl) ?_
  refine WL.ex rfl rfl rfl (Ex.len Tryd.underlying44 rfl) ?_
  refine WL.ex rfl rfl rfl (Ex.mv rfl) ?_
  refine WL.nil ?_
  refine WX.next (?_)
  refine WC.block ?_
  refine WC.loop (σ := Nat × Nat × Nat × List Value × Value × Hs) (fun s => [(0, .pointer (some ⟨s.2.1, 0, none⟩)), (1, .int .i64 (d : Int)), (9, s.2.2.2.2.1), (17, .slice A acts.length c), (18, .int .i64 (acts.length : Int)), (19, .int .i64 (s.1 : Int))]) (fun s wr => s.1 ≤ acts.length ∧ s.2.2.2.2.2.length ≤ s.1 ∧ s.2.2.2.2.2.length ≤ 2 ^ d ∧ (∀ a ∈ s.2.2.2.2.2, H32 a) ∧ Mem w wr (· ∈ (treeR g gl ge d vs (lvOf dNode e0 d [])).fp) [row s.2.2.2.2.1 28 32 s.2.2.2.2.2.length (fl s.2.2.2.2.2), treeR s.2.1 s.2.2.1 ge d s.2.2.2.1 (lvOf dNode e0 d s.2.2.2.2.2)]) (fun s => acts.length - s.1) (((0, g, gl, vs, .slice none 0 0, []) : Nat × Nat × Nat × List Value × Value × Hs)) ?_ (.cons rfl (.cons rfl (.cons rfl (.cons rfl (.cons rfl (.cons rfl (.nil))))))) ?_
  · exact ⟨by simp, by simp, by simp, by simp, M0⟩
  rintro ⟨i, gt, glt, vt, v, ls⟩ w8 ⟨hi, hli, hl2, hls, M8⟩
  dsimp only at hi hli hl2 hls M8
  refine WC.sub (env' := [(0, .pointer (some ⟨gt, 0, none⟩)), (1, .int .i64 (d : Int)), (9, v), (17, .slice A acts.length c), (18, .int .i64 (acts.length : Int)), (19, .int .i64 (i : Int))]) (.cons rfl (.cons rfl (.cons rfl (.cons rfl (.cons rfl (.cons rfl (.nil))))))) ?_
  refine WC.seq ?_
  refine WC.region ?_
  refine WL.ex rfl rfl rfl (Ex.lss rfl rfl) ?_
  refine WL.nil ?_
  refine WX.next (?_)
  refine WC.seq ?_
  refine WC.cond_dec rfl (fun h20 => ?_) (fun h20 => ?_)
  · obtain ⟨a, hai⟩ : ∃ p, acts[i]? = some p := ⟨_, List.getElem?_eq_getElem (by omega)⟩
    have ham := List.mem_of_getElem? hai
    have hao := hok a ham
    obtain ⟨b0, o0, hA0, _⟩ := hr.plain (by rw [flat_len (fun a ha => act_len (hok a ha))]; omega)
    have hb0 := hrA (fun h => by rw [h] at hai; simp at hai) _ hA0
    subst hA0
    obtain ⟨Av, cv, rfl⟩ := own_slice (M8.get (i := 0) rfl)
    refine WC.skip ?_
    refine WX.next (?_)
    refine WC.seq ?_
    refine WC.block ?_
    refine WC.seq ?_
    refine WC.region ?_
    refine WL.ex rfl rfl rfl (Ex.ia Tryd.underlying44 sz73 rfl rfl ⟨by omega, by omega⟩) ?_
    refine WL.ex rfl rfl rfl (Ex.loadA ty73 rfl (l := actC a) (act_len hao) (Rd.flat (hr.keep M8.keep (fun b hb hm => by injection hb with hb; subst hb; exact hb0 hm)) (i := (i : Int).toNat) (fun a ha => act_len (hok a ha)) (by simpa using hai))) ?_
    refine WL.ac rfl rfl rfl (Ac.alloc M8 (l := actC act0) (by kernel_rfl)) ?_; rintro v12 w12 ⟨ga, rfl, hg12, K12, M12⟩
    refine WL.ac0 rfl rfl (Ac.stA M12 ty73 rfl rfl (vs := actC a) rfl (act_len hao) act_one (i := 0) rfl (by rw [act_len hao, act_len act0_ok]; decide)) ?_; rintro v13 w13 ⟨K13, M13⟩
    try dsimp only [List.set] at M13
    rw [splice_all _ _ (by rw [act_len hao, act_len act0_ok])] at M13
    refine WL.nil ?_
    refine WX.next (?_)
    refine WC.seq ?_
    refine WC.seq ?_
    refine WC.region ?_
    refine WL.ex rfl rfl rfl (Ex.fa fl73_0 rfl) ?_
    refine WL.ex rfl rfl rfl (Ex.load ty5 rfl (M13.cell (i := 0) (v := .int .u8 (a.k : Int)) rfl rfl)) ?_
    refine WL.ex rfl rfl rfl (Ex.rem rfl rfl (by decide) (c := ((a.k % 4 : Nat) : Int)) (tmodT _ 4)) ?_
    refine WL.nil ?_
    refine WX.next (?_)
    refine WC.block ?_
    refine WC.seq ?_
    refine WC.region ?_
    refine WL.ex rfl rfl rfl (Ex.eqI rfl rfl) ?_
    refine WL.ex rfl rfl rfl (Ex.asg rfl) ?_
    refine WL.nil ?_
    refine WX.next (?_)
    refine WC.cond_dec rfl (fun hc33 => ?_) (fun hc33 => ?_)
    · skip
      refine WC.seq ?_
      refine WC.region ?_
      refine WL.ex rfl rfl rfl (Ex.mv rfl) ?_
      refine WL.ex rfl rfl rfl (Ex.fa fl73_1 rfl) ?_
      refine WL.ex rfl rfl rfl (Ex.loadA ty28 rfl (l := bytesV a.h) (h32_len hao.h) (M13.rdt (i := 0) rfl (act_1 hao))) ?_
      refine WL.ac rfl rfl rfl (Ac.call rfl Tryd.func13 nm13 rfl (tAppend_ok w13 gt glt ge d vt ls a.h (M13.get (i := 2) rfl) hls hao.h hd (hT.keepF M13.keep hFT) (fun b hb => (M13.own _ (List.mem_of_getElem? (i := 2) rfl) b hb).elim (fun hle => hT.fresh hle) (fun f => hFT b f)))) ?_; rintro v22 w22 ⟨vt1, rfl, T22⟩
      
      have M22 := M13.turned (i := 2) rfl T22
      try dsimp only [List.set] at M22
      by_cases hfl : ls.length < 2 ^ d
      · rw [tApp_c hfl] at M22
        rw [tApp_a hfl, tApp_b hfl]
        have hls1 := app32 hls hao.h
        have hl1 : (ls ++ [a.h]).length = ls.length + 1 := by simp
        refine WL.ex rfl rfl rfl (Ex.mv rfl) ?_
        refine WL.ex rfl rfl rfl (Ex.ext rfl rfl) ?_
        refine WL.ex rfl rfl rfl (Ex.ext rfl rfl) ?_
        refine WL.ex rfl rfl rfl (Ex.asg rfl) ?_
        refine WL.ex rfl rfl rfl (Ex.asg rfl) ?_
        refine WL.nil ?_
        refine WX.next (?_)
        refine WC.seq ?_
        refine WC.seq ?_
        refine WC.region ?_
        refine WL.ex rfl rfl rfl (Ex.mv rfl) ?_
        refine WL.ex rfl rfl rfl (Ex.len Tryd.underlying22 rfl) ?_
        refine WL.ex rfl rfl rfl (Ex.cvI Tryd.underlying3 Tryd.underlying23 rfl (u64w_lt _ (by omega))) ?_
        refine WL.ex rfl rfl rfl (Ex.mv rfl) ?_
        refine WL.ac rfl rfl rfl (Ac.call rfl Tryd.func24 nm24 rfl (places_ok w22 d 0 hd (by decide))) ?_; rintro v32 w32 ⟨rfl, K32⟩
        rw [places_0]
        have M32 := M22.step K32
        refine WL.ex rfl rfl rfl (Ex.eqI rfl rfl) ?_
        rw [decide_eq_false (show ¬ (ls.length : Int) = ((2 ^ d : Nat) : Int) from fun hq => by have := Int.ofNat.inj hq; omega)]
        refine WL.nil ?_
        refine WX.next (?_)
        refine WC.no rfl ?_
        refine WC.skip ?_
        refine WX.next (?_)
        refine WC.seq ?_
        refine WC.seq ?_
        refine WC.region ?_
        refine WL.ex rfl rfl rfl (Ex.mv rfl) ?_
        refine WL.ex rfl rfl rfl (Ex.neI rfl rfl) ?_
        refine WL.ex rfl rfl rfl (Ex.mv rfl) ?_
        
        refine WL.yes rfl rfl rfl rfl ?_
        refine WL.ex rfl rfl rfl (Ex.mv rfl) ?_
        refine WL.yes rfl rfl rfl rfl ?_
        refine WL.ex rfl rfl rfl (Ex.mv rfl) ?_
        refine WL.yes rfl rfl rfl rfl ?_
        refine WL.ex rfl rfl rfl (Ex.len Tryd.underlying22 rfl) ?_
        refine WL.yes rfl rfl rfl rfl ?_
        refine WL.ex rfl rfl rfl (Ex.cvI Tryd.underlying3 Tryd.underlying23 rfl (u64w_lt _ (by omega))) ?_
        refine WL.yes rfl rfl rfl rfl ?_
        refine WL.ex rfl rfl rfl (Ex.neI rfl rfl) ?_
        rw [show (!decide ((ls.length : Int) = (ls.length : Int))) = false by simp]
        refine WL.ex rfl rfl rfl (Ex.pickF rfl rfl) ?_
        refine WL.nil ?_
        refine WX.next (?_)
        refine WC.no rfl ?_
        refine WC.skip ?_
        refine WX.next (?_)
        have D43 := Keep.drew nof w32
        have M43 := M32.step D43
        refine WC.draw (Keep (FP M43 [1]) w32.drew) [] (.one 1 0 (.one 3 0 (.one 4 1 (.two 0 (.two 2 (.one 5 2 (.one 6 2 (.one 7 0 .nil))) 5 (.one 2 2 (.one 6 2 (.one 7 0 .nil)))) 5 (.one 0 2 (.one 2 2 (.one 6 2 (.one 7 0 .nil)))))))) mixed (by kernel_rfl) (by kernel_rfl) (by kernel_rfl) (HQ.block (HQ.then_ (HQ.block (HQ.then_ (HQ.then_ (HQ.block (HQ.then_ HQ.body))))))) ?_
        revert D43 M43; generalize w32.drew = w43; intro D43 M43
        have B43 : Mem w43 w43 (FP M43 [1]) [_] := M43.base [1] (by decide)
        refine WP.p rfl rfl rfl rfl (fun _ => Ex.mv rfl) ?_
        refine WP.p rfl rfl rfl rfl (fun _ => Ex.fa fl73_1 rfl) ?_
        refine WP.q B43.keep rfl rfl rfl rfl (fun w' hS => Ex.loadA ty28 rfl (l := bytesV a.h) (h32_len hao.h) (M43.fp_rdt (j := 0) hS rfl (act_1 hao) rfl)) ?_
        refine WP.two ?_ ?_
        · skip
          refine WP.a rfl rfl rfl rfl (Ac.bs0 M43 Tryd.underlying22 sz28) ?_; rintro v47 w47 ⟨gn, rfl, hg47, K47, M47⟩
          have B47 := B43.grow (r := row (.slice (some ⟨gn, 0, none⟩) 0 0) 28 32 0 []) K47 (M47.get (i := 0) rfl) (by intro b hb; simp [row, Value.ownBlock] at hb; omega)
          refine .inr ⟨fun _ => B47.keep, ?_⟩
          refine WP.two ?_ ?_
          · skip
            refine WP.a rfl rfl rfl rfl (Ac.appT el22 (M47.get (i := 0) rfl) rfl rfl (fl_len hls) (M47.rdr (i := 2) rfl) (fl_one _) (by omega) (by unfold maxLen; omega)) ?_; rintro v48 w48 T48
            rw [Nat.zero_add, List.nil_append] at T48
            have B48 := B47.turned (i := 0) rfl T48
            refine .inr ⟨fun _ => B48.keep, ?_⟩
            have M48 := M47.turned (i := 0) rfl T48
            try dsimp only [List.set] at M48
            refine WP.a rfl rfl rfl rfl (Ac.bs M48 (parts := [(0, .tmp 71)]) rfl rfl (LitS.agg1 el22 rfl (h32_len hao.h) (by decide))) ?_; rintro v49 w49 ⟨g1_, rfl, hg49, K49, M49⟩
            have B49 := B48.step K49
            refine .inr ⟨fun _ => B49.keep, ?_⟩
            refine WP.a rfl rfl rfl rfl (Ac.appT el22 (M49.get (i := 1) rfl) rfl rfl (by rw [h32_len hao.h]) (M49.rdw (i := 0) rfl) (bytesV_one _) (by omega) (by unfold maxLen; omega)) ?_; rintro v50 w50 T50
            have B50 := B49.turned (i := 0) rfl T50
            refine .inr ⟨fun _ => B50.keep, ?_⟩
            rw [show fl ls ++ bytesV a.h = fl (ls ++ [a.h]) by simp [fl], show ls.length + 1 = (ls ++ [a.h]).length by simp] at T50
            have M50 := M49.turned (i := 1) rfl T50
            try dsimp only [List.set] at M50
            obtain ⟨An, cn, rfl⟩ := own_slice (M50.get (i := 1) rfl)
            refine WP.p rfl rfl rfl rfl (fun _ => Ex.asg rfl) ?_
            refine WP.nil ?_
            refine WX.normal_block (WX.next (?_))
            refine WC.seq ?_
            refine WC.region ?_
            refine WL.ex rfl rfl rfl (Ex.mv rfl) ?_
            refine WL.ac rfl rfl rfl (Ac.call rfl Tryd.func16 nm16 rfl (tLen_ok w50 gt glt ge d _ _ (ls ++ [a.h]) (TreeS.of (M50.get (i := 4) rfl) (lvOf_len _ _)) (by rw [lvOf_get (by omega), levOf_zero]))) ?_; rintro v53 w53 ⟨rfl, K53⟩
            have M53 := M50.step K53
            refine WL.ex rfl rfl rfl (Ex.mv rfl) ?_
            refine WL.ex rfl rfl rfl (Ex.len Tryd.underlying22 rfl) ?_
            refine WL.ex rfl rfl rfl (Ex.cvI Tryd.underlying3 Tryd.underlying23 rfl (u64w_lt _ (by omega))) ?_
            refine WL.ex rfl rfl rfl (Ex.neI rfl rfl) ?_
            rw [show (!decide (((ls ++ [a.h]).length : Int) = ((ls ++ [a.h]).length : Int))) = false by simp]
            refine WL.nil ?_
            refine WX.next (?_)
            refine WC.no rfl ?_
            refine WC.skip ?_
            refine WX.normal_block (WX.next (?_))
            refine WC.region ?_
            refine WL.ex rfl rfl rfl (Ex.add rfl rfl (i64w _ (by omega) (by omega))) ?_
            refine WL.ex rfl rfl rfl (Ex.mv rfl) ?_
            refine WL.nil ?_
            refine WX.again ((i + 1, gt, glt, vt1, .slice An (ls ++ [a.h]).length cn, ls ++ [a.h])) ?_ ?_ (.cons rfl (.cons rfl (.cons rfl (.cons rfl (.cons rfl (.cons rfl (.nil)))))))
            · dsimp only; omega
            · first
                | exact ⟨by dsimp only; omega, by dsimp only; omega, hl2, hls, (Mem.pick M53 [1, 4] (by decide) rfl)⟩
                | exact ⟨by dsimp only; omega, by dsimp only; rw [hl1]; omega, by dsimp only; rw [hl1]; omega, hls1, (Mem.pick M53 [1, 4] (by decide) rfl)⟩
                | exact ⟨by dsimp only; omega, by dsimp only; rw [htl]; omega, by dsimp only; rw [htl]; omega, take32 hls _, (Mem.pick M53 [1, 4] (by decide) rfl)⟩
          · skip
            refine WP.a rfl rfl rfl rfl (Ac.bs M47 (parts := [(0, .tmp 71)]) rfl rfl (LitS.agg1 el22 rfl (h32_len hao.h) (by decide))) ?_; rintro v60 w60 ⟨g1_, rfl, hg60, K60, M60⟩
            have B60 := B47.step K60
            refine .inr ⟨fun _ => B60.keep, ?_⟩
            refine WP.a rfl rfl rfl rfl (Ac.appT el22 (M60.get (i := 1) rfl) rfl rfl (fl_len hls) (M60.rdr (i := 3) rfl) (fl_one _) (by omega) (by unfold maxLen; omega)) ?_; rintro v61 w61 T61
            rw [Nat.zero_add, List.nil_append] at T61
            have B61 := B60.turned (i := 0) rfl T61
            refine .inr ⟨fun _ => B61.keep, ?_⟩
            have M61 := M60.turned (i := 1) rfl T61
            try dsimp only [List.set] at M61
            refine WP.a rfl rfl rfl rfl (Ac.appT el22 (M61.get (i := 1) rfl) rfl rfl (by rw [h32_len hao.h]) (M61.rdw (i := 0) rfl) (bytesV_one _) (by omega) (by unfold maxLen; omega)) ?_; rintro v62 w62 T62
            have B62 := B61.turned (i := 0) rfl T62
            refine .inr ⟨fun _ => B62.keep, ?_⟩
            rw [show fl ls ++ bytesV a.h = fl (ls ++ [a.h]) by simp [fl], show ls.length + 1 = (ls ++ [a.h]).length by simp] at T62
            have M62 := M61.turned (i := 1) rfl T62
            try dsimp only [List.set] at M62
            obtain ⟨An, cn, rfl⟩ := own_slice (M62.get (i := 1) rfl)
            refine WP.p rfl rfl rfl rfl (fun _ => Ex.asg rfl) ?_
            refine WP.nil ?_
            refine WX.normal_block (WX.next (?_))
            refine WC.seq ?_
            refine WC.region ?_
            refine WL.ex rfl rfl rfl (Ex.mv rfl) ?_
            refine WL.ac rfl rfl rfl (Ac.call rfl Tryd.func16 nm16 rfl (tLen_ok w62 gt glt ge d _ _ (ls ++ [a.h]) (TreeS.of (M62.get (i := 4) rfl) (lvOf_len _ _)) (by rw [lvOf_get (by omega), levOf_zero]))) ?_; rintro v65 w65 ⟨rfl, K65⟩
            have M65 := M62.step K65
            refine WL.ex rfl rfl rfl (Ex.mv rfl) ?_
            refine WL.ex rfl rfl rfl (Ex.len Tryd.underlying22 rfl) ?_
            refine WL.ex rfl rfl rfl (Ex.cvI Tryd.underlying3 Tryd.underlying23 rfl (u64w_lt _ (by omega))) ?_
            refine WL.ex rfl rfl rfl (Ex.neI rfl rfl) ?_
            rw [show (!decide (((ls ++ [a.h]).length : Int) = ((ls ++ [a.h]).length : Int))) = false by simp]
            refine WL.nil ?_
            refine WX.next (?_)
            refine WC.no rfl ?_
            refine WC.skip ?_
            refine WX.normal_block (WX.next (?_))
            refine WC.region ?_
            refine WL.ex rfl rfl rfl (Ex.add rfl rfl (i64w _ (by omega) (by omega))) ?_
            refine WL.ex rfl rfl rfl (Ex.mv rfl) ?_
            refine WL.nil ?_
            refine WX.again ((i + 1, gt, glt, vt1, .slice An (ls ++ [a.h]).length cn, ls ++ [a.h])) ?_ ?_ (.cons rfl (.cons rfl (.cons rfl (.cons rfl (.cons rfl (.cons rfl (.nil)))))))
            · dsimp only; omega
            · first
                | exact ⟨by dsimp only; omega, by dsimp only; omega, hl2, hls, (Mem.pick M65 [1, 4] (by decide) rfl)⟩
                | exact ⟨by dsimp only; omega, by dsimp only; rw [hl1]; omega, by dsimp only; rw [hl1]; omega, hls1, (Mem.pick M65 [1, 4] (by decide) rfl)⟩
                | exact ⟨by dsimp only; omega, by dsimp only; rw [htl]; omega, by dsimp only; rw [htl]; omega, take32 hls _, (Mem.pick M65 [1, 4] (by decide) rfl)⟩
        · skip
          refine WP.a rfl rfl rfl rfl (Ac.bs M43 (parts := [(0, .tmp 71)]) rfl rfl (LitS.agg1 el22 rfl (h32_len hao.h) (by decide))) ?_; rintro v72 w72 ⟨g1_, rfl, hg72, K72, M72⟩
          have B72 := B43.step K72
          refine .inr ⟨fun _ => B72.keep, ?_⟩
          refine WP.a rfl rfl rfl rfl (Ac.bs0 M72 Tryd.underlying22 sz28) ?_; rintro v73 w73 ⟨gn, rfl, hg73, K73, M73⟩
          have B73 := B72.grow (r := row (.slice (some ⟨gn, 0, none⟩) 0 0) 28 32 0 []) K73 (M73.get (i := 0) rfl) (by intro b hb; simp [row, Value.ownBlock] at hb; omega)
          refine .inr ⟨fun _ => B73.keep, ?_⟩
          refine WP.a rfl rfl rfl rfl (Ac.appT el22 (M73.get (i := 0) rfl) rfl rfl (fl_len hls) (M73.rdr (i := 3) rfl) (fl_one _) (by omega) (by unfold maxLen; omega)) ?_; rintro v74 w74 T74
          rw [Nat.zero_add, List.nil_append] at T74
          have B74 := B73.turned (i := 0) rfl T74
          refine .inr ⟨fun _ => B74.keep, ?_⟩
          have M74 := M73.turned (i := 0) rfl T74
          try dsimp only [List.set] at M74
          refine WP.a rfl rfl rfl rfl (Ac.appT el22 (M74.get (i := 0) rfl) rfl rfl (by rw [h32_len hao.h]) (M74.rdw (i := 1) rfl) (bytesV_one _) (by omega) (by unfold maxLen; omega)) ?_; rintro v75 w75 T75
          have B75 := B74.turned (i := 0) rfl T75
          refine .inr ⟨fun _ => B75.keep, ?_⟩
          rw [show fl ls ++ bytesV a.h = fl (ls ++ [a.h]) by simp [fl], show ls.length + 1 = (ls ++ [a.h]).length by simp] at T75
          have M75 := M74.turned (i := 0) rfl T75
          try dsimp only [List.set] at M75
          obtain ⟨An, cn, rfl⟩ := own_slice (M75.get (i := 0) rfl)
          refine WP.p rfl rfl rfl rfl (fun _ => Ex.asg rfl) ?_
          refine WP.nil ?_
          refine WX.normal_block (WX.next (?_))
          refine WC.seq ?_
          refine WC.region ?_
          refine WL.ex rfl rfl rfl (Ex.mv rfl) ?_
          refine WL.ac rfl rfl rfl (Ac.call rfl Tryd.func16 nm16 rfl (tLen_ok w75 gt glt ge d _ _ (ls ++ [a.h]) (TreeS.of (M75.get (i := 4) rfl) (lvOf_len _ _)) (by rw [lvOf_get (by omega), levOf_zero]))) ?_; rintro v78 w78 ⟨rfl, K78⟩
          have M78 := M75.step K78
          refine WL.ex rfl rfl rfl (Ex.mv rfl) ?_
          refine WL.ex rfl rfl rfl (Ex.len Tryd.underlying22 rfl) ?_
          refine WL.ex rfl rfl rfl (Ex.cvI Tryd.underlying3 Tryd.underlying23 rfl (u64w_lt _ (by omega))) ?_
          refine WL.ex rfl rfl rfl (Ex.neI rfl rfl) ?_
          rw [show (!decide (((ls ++ [a.h]).length : Int) = ((ls ++ [a.h]).length : Int))) = false by simp]
          refine WL.nil ?_
          refine WX.next (?_)
          refine WC.no rfl ?_
          refine WC.skip ?_
          refine WX.normal_block (WX.next (?_))
          refine WC.region ?_
          refine WL.ex rfl rfl rfl (Ex.add rfl rfl (i64w _ (by omega) (by omega))) ?_
          refine WL.ex rfl rfl rfl (Ex.mv rfl) ?_
          refine WL.nil ?_
          refine WX.again ((i + 1, gt, glt, vt1, .slice An (ls ++ [a.h]).length cn, ls ++ [a.h])) ?_ ?_ (.cons rfl (.cons rfl (.cons rfl (.cons rfl (.cons rfl (.cons rfl (.nil)))))))
          · dsimp only; omega
          · first
              | exact ⟨by dsimp only; omega, by dsimp only; omega, hl2, hls, (Mem.pick M78 [0, 4] (by decide) rfl)⟩
              | exact ⟨by dsimp only; omega, by dsimp only; rw [hl1]; omega, by dsimp only; rw [hl1]; omega, hls1, (Mem.pick M78 [0, 4] (by decide) rfl)⟩
              | exact ⟨by dsimp only; omega, by dsimp only; rw [htl]; omega, by dsimp only; rw [htl]; omega, take32 hls _, (Mem.pick M78 [0, 4] (by decide) rfl)⟩
      · rw [tFull_c hfl] at M22
        rw [tFull_a hfl, tFull_b hfl]
        refine WL.ex rfl rfl rfl (Ex.mv rfl) ?_
        refine WL.ex rfl rfl rfl (Ex.ext rfl rfl) ?_
        refine WL.ex rfl rfl rfl (Ex.ext rfl rfl) ?_
        refine WL.ex rfl rfl rfl (Ex.asg rfl) ?_
        refine WL.ex rfl rfl rfl (Ex.asg rfl) ?_
        refine WL.nil ?_
        refine WX.next (?_)
        refine WC.seq ?_
        refine WC.seq ?_
        refine WC.region ?_
        refine WL.ex rfl rfl rfl (Ex.mv rfl) ?_
        refine WL.ex rfl rfl rfl (Ex.len Tryd.underlying22 rfl) ?_
        refine WL.ex rfl rfl rfl (Ex.cvI Tryd.underlying3 Tryd.underlying23 rfl (u64w_lt _ (by omega))) ?_
        refine WL.ex rfl rfl rfl (Ex.mv rfl) ?_
        refine WL.ac rfl rfl rfl (Ac.call rfl Tryd.func24 nm24 rfl (places_ok w22 d 0 hd (by decide))) ?_; rintro v94 w94 ⟨rfl, K94⟩
        rw [places_0]
        have M94 := M22.step K94
        refine WL.ex rfl rfl rfl (Ex.eqI rfl rfl) ?_
        rw [decide_eq_true (show (ls.length : Int) = ((2 ^ d : Nat) : Int) by rw [show ls.length = 2 ^ d by omega])]
        refine WL.nil ?_
        refine WX.next (?_)
        refine WC.yes rfl ?_
        refine WC.seq ?_
        refine WC.seq ?_
        refine WC.region ?_
        refine WL.ex rfl rfl rfl (Ex.mv rfl) ?_
        refine WL.ex rfl rfl rfl (Ex.neI rfl rfl) ?_
        refine WL.ex rfl rfl rfl (Ex.mv rfl) ?_
        
        refine WL.yes rfl rfl rfl rfl ?_
        refine WL.ex rfl rfl rfl (Ex.mv rfl) ?_
        refine WL.yes rfl rfl rfl rfl ?_
        refine WL.ex rfl rfl rfl (Ex.neI rfl rfl) ?_
        refine WL.ex rfl rfl rfl (Ex.pickF rfl rfl) ?_
        refine WL.nil ?_
        refine WX.next (?_)
        
        refine WC.no rfl ?_
        refine WC.skip ?_
        refine WX.next (?_)
        refine WC.exit ?_
        refine WX.exit_then (WX.exit_other rfl (WX.exit_then (WX.exit_block (WX.next (?_)))))
        refine WC.region ?_
        refine WL.ex rfl rfl rfl (Ex.add rfl rfl (i64w _ (by omega) (by omega))) ?_
        refine WL.ex rfl rfl rfl (Ex.mv rfl) ?_
        refine WL.nil ?_
        refine WX.again ((i + 1, gt, glt, vt1, .slice Av ls.length cv, ls)) ?_ ?_ (.cons rfl (.cons rfl (.cons rfl (.cons rfl (.cons rfl (.cons rfl (.nil)))))))
        · dsimp only; omega
        · first
            | exact ⟨by dsimp only; omega, by dsimp only; omega, hl2, hls, (Mem.pick M94 [1, 2] (by decide) rfl)⟩
            | exact ⟨by dsimp only; omega, by dsimp only; rw [hl1]; omega, by dsimp only; rw [hl1]; omega, hls1, (Mem.pick M94 [1, 2] (by decide) rfl)⟩
            | exact ⟨by dsimp only; omega, by dsimp only; rw [htl]; omega, by dsimp only; rw [htl]; omega, take32 hls _, (Mem.pick M94 [1, 2] (by decide) rfl)⟩
    · skip
      refine WC.seq ?_
      refine WC.region ?_
      refine WL.ex rfl rfl rfl (Ex.eqI rfl rfl) ?_
      refine WL.ex rfl rfl rfl (Ex.asg rfl) ?_
      refine WL.nil ?_
      refine WX.next (?_)
      refine WC.cond_dec rfl (fun hc74 => ?_) (fun hc74 => ?_)
      · skip
        refine WC.seq ?_
        refine WC.region ?_
        refine WL.ex rfl rfl rfl (Ex.fa fl73_2 rfl) ?_
        refine WL.ex rfl rfl rfl (Ex.load ty23 rfl (M13.cell (i := 0) (v := .int .u64 (a.n : Int)) rfl (act_33 hao))) ?_
        refine WL.ex rfl rfl rfl (Ex.mv rfl) ?_
        refine WL.ex rfl rfl rfl (Ex.len Tryd.underlying22 rfl) ?_
        refine WL.ex rfl rfl rfl (Ex.cvI Tryd.underlying3 Tryd.underlying23 rfl (u64w_lt _ (by omega))) ?_
        refine WL.ex rfl rfl rfl (Ex.leq rfl rfl) ?_
        refine WL.ex rfl rfl rfl (Ex.asg rfl) ?_
        refine WL.nil ?_
        refine WX.next (?_)
        refine WC.seq ?_
        refine WC.seq ?_
        refine WC.region ?_
        refine WL.ex rfl rfl rfl (Ex.mv rfl) ?_
        refine WL.ex rfl rfl rfl (Ex.fa fl73_2 rfl) ?_
        refine WL.ex rfl rfl rfl (Ex.load ty23 rfl (M13.cell (i := 0) (v := .int .u64 (a.n : Int)) rfl (act_33 hao))) ?_
        refine WL.ac rfl rfl rfl (Ac.call rfl Tryd.func15 nm15 rfl (tCut_ok w13 gt glt ge d vt ls a.n (M13.get (i := 2) rfl) hls hao.n hd)) ?_; rintro v116 w116 ⟨vt1, rfl, T116⟩
        have M116 := M13.turned (i := 2) rfl T116
        try dsimp only [List.set] at M116
        by_cases hcan : a.n ≤ ls.length
        · rw [decide_eq_true hcan, decide_eq_true (show (a.n : Int) ≤ (ls.length : Int) by omega)]
          refine WL.ex rfl rfl rfl (Ex.mv rfl) ?_
          refine WL.ex rfl rfl rfl (Ex.neB Tryd.underlying4 rfl rfl) ?_
          refine WL.nil ?_
          refine WX.next (?_)
          refine WC.no rfl ?_
          refine WC.skip ?_
          refine WX.next (?_)
          refine WC.seq ?_
          refine WC.region ?_
          refine WL.ex rfl rfl rfl (Ex.mv rfl) ?_
          refine WL.nil ?_
          refine WX.next (?_)
          
          refine WC.yes rfl ?_
          refine WC.region ?_
          refine WL.ex rfl rfl rfl (Ex.mv rfl) ?_
          refine WL.ex rfl rfl rfl (Ex.fa fl73_2 rfl) ?_
          refine WL.ex rfl rfl rfl (Ex.load ty23 rfl (M116.cell (i := 0) (v := .int .u64 (a.n : Int)) rfl (act_33 hao))) ?_
          refine WL.ex rfl rfl rfl (Ex.slh Tryd.underlying22 sz28 rfl rfl (Int.natCast_nonneg _) (by have := own_cap (M116.get (i := 1) rfl); omega)) ?_
          rw [Int.toNat_natCast]
          have htl : (ls.take a.n).length = a.n := by rw [List.length_take]; omega
          replace M116 := M116.cutR (i := 1) rfl hcan
          try dsimp only [List.set] at M116
          rw [← fl_take hls] at M116
          replace M116 := M116.eqv (i := 1) rfl (r' := row (.slice Av a.n cv) 28 32 (ls.take a.n).length (fl (ls.take a.n))) (by rw [htl])
          try dsimp only [List.set] at M116
          refine WL.ex rfl rfl rfl (Ex.asg rfl) ?_
          refine WL.nil ?_
          refine WX.normal_block (WX.next (?_))
          refine WC.seq ?_
          refine WC.region ?_
          refine WL.ex rfl rfl rfl (Ex.mv rfl) ?_
          refine WL.ac rfl rfl rfl (Ac.call rfl Tryd.func16 nm16 rfl (tLen_ok w116 gt glt ge d _ _ (ls.take a.n) (TreeS.of (M116.get (i := 2) rfl) (lvOf_len _ _)) (by rw [lvOf_get (by omega), levOf_zero]))) ?_; rintro v126 w126 ⟨rfl, K126⟩
          have M126 := M116.step K126
          refine WL.ex rfl rfl rfl (Ex.mv rfl) ?_
          refine WL.ex rfl rfl rfl (Ex.len Tryd.underlying22 rfl) ?_
          refine WL.ex rfl rfl rfl (Ex.cvI Tryd.underlying3 Tryd.underlying23 rfl (u64w_lt _ (by omega))) ?_
          refine WL.ex rfl rfl rfl (Ex.neI rfl rfl) ?_
          rw [show (!decide (((ls.take a.n).length : Int) = (a.n : Int))) = false by rw [htl]; simp]
          refine WL.nil ?_
          refine WX.next (?_)
          refine WC.no rfl ?_
          refine WC.skip ?_
          refine WX.normal_block (WX.next (?_))
          refine WC.region ?_
          refine WL.ex rfl rfl rfl (Ex.add rfl rfl (i64w _ (by omega) (by omega))) ?_
          refine WL.ex rfl rfl rfl (Ex.mv rfl) ?_
          refine WL.nil ?_
          refine WX.again ((i + 1, gt, glt, vt1, .slice Av a.n cv, ls.take a.n)) ?_ ?_ (.cons rfl (.cons rfl (.cons rfl (.cons rfl (.cons rfl (.cons rfl (.nil)))))))
          · dsimp only; omega
          · first
              | exact ⟨by dsimp only; omega, by dsimp only; omega, hl2, hls, (Mem.pick M126 [1, 2] (by decide) rfl)⟩
              | exact ⟨by dsimp only; omega, by dsimp only; rw [hl1]; omega, by dsimp only; rw [hl1]; omega, hls1, (Mem.pick M126 [1, 2] (by decide) rfl)⟩
              | exact ⟨by dsimp only; omega, by dsimp only; rw [htl]; omega, by dsimp only; rw [htl]; omega, take32 hls _, (Mem.pick M126 [1, 2] (by decide) rfl)⟩
        · rw [decide_eq_false hcan, decide_eq_false (show ¬ (a.n : Int) ≤ (ls.length : Int) by omega)]
          rw [List.take_of_length_le (show ls.length ≤ a.n by omega)] at M116
          refine WL.ex rfl rfl rfl (Ex.mv rfl) ?_
          refine WL.ex rfl rfl rfl (Ex.neB Tryd.underlying4 rfl rfl) ?_
          refine WL.nil ?_
          refine WX.next (?_)
          refine WC.no rfl ?_
          refine WC.skip ?_
          refine WX.next (?_)
          refine WC.seq ?_
          refine WC.region ?_
          refine WL.ex rfl rfl rfl (Ex.mv rfl) ?_
          refine WL.nil ?_
          refine WX.next (?_)
          
          refine WC.no rfl ?_
          refine WC.skip ?_
          refine WX.normal_block (WX.next (?_))
          refine WC.seq ?_
          refine WC.region ?_
          refine WL.ex rfl rfl rfl (Ex.mv rfl) ?_
          refine WL.ac rfl rfl rfl (Ac.call rfl Tryd.func16 nm16 rfl (tLen_ok w116 gt glt ge d _ _ ls (TreeS.of (M116.get (i := 2) rfl) (lvOf_len _ _)) (by rw [lvOf_get (by omega), levOf_zero]))) ?_; rintro v137 w137 ⟨rfl, K137⟩
          have M137 := M116.step K137
          refine WL.ex rfl rfl rfl (Ex.mv rfl) ?_
          refine WL.ex rfl rfl rfl (Ex.len Tryd.underlying22 rfl) ?_
          refine WL.ex rfl rfl rfl (Ex.cvI Tryd.underlying3 Tryd.underlying23 rfl (u64w_lt _ (by omega))) ?_
          refine WL.ex rfl rfl rfl (Ex.neI rfl rfl) ?_
          rw [show (!decide ((ls.length : Int) = (ls.length : Int))) = false by simp]
          refine WL.nil ?_
          refine WX.next (?_)
          refine WC.no rfl ?_
          refine WC.skip ?_
          refine WX.normal_block (WX.next (?_))
          refine WC.region ?_
          refine WL.ex rfl rfl rfl (Ex.add rfl rfl (i64w _ (by omega) (by omega))) ?_
          refine WL.ex rfl rfl rfl (Ex.mv rfl) ?_
          refine WL.nil ?_
          refine WX.again ((i + 1, gt, glt, vt1, .slice Av ls.length cv, ls)) ?_ ?_ (.cons rfl (.cons rfl (.cons rfl (.cons rfl (.cons rfl (.cons rfl (.nil)))))))
          · dsimp only; omega
          · first
              | exact ⟨by dsimp only; omega, by dsimp only; omega, hl2, hls, (Mem.pick M137 [1, 2] (by decide) rfl)⟩
              | exact ⟨by dsimp only; omega, by dsimp only; rw [hl1]; omega, by dsimp only; rw [hl1]; omega, hls1, (Mem.pick M137 [1, 2] (by decide) rfl)⟩
              | exact ⟨by dsimp only; omega, by dsimp only; rw [htl]; omega, by dsimp only; rw [htl]; omega, take32 hls _, (Mem.pick M137 [1, 2] (by decide) rfl)⟩
      · skip
        refine WC.seq ?_
        refine WC.region ?_
        refine WL.ex rfl rfl rfl (Ex.eqI rfl rfl) ?_
        refine WL.ex rfl rfl rfl (Ex.asg rfl) ?_
        refine WL.nil ?_
        refine WX.next (?_)
        refine WC.cond_dec rfl (fun hc95 => ?_) (fun hc95 => ?_)
        · skip
          refine WC.seq ?_
          refine WC.region ?_
          refine WL.ex rfl rfl rfl (Ex.mv rfl) ?_
          refine WL.ac rfl rfl rfl (Ac.call rfl Tryd.func31 nm31 rfl (tCopy_ok w13 gt glt ge d vt ls (TreeS.of (M13.get (i := 2) rfl) (lvOf_len _ _)) hls hd (by omega))) ?_; rintro v147 w147 ⟨gc, glc, vc, rfl, N147⟩
          have M147 := M13.new N147
          refine WL.ex rfl rfl rfl (Ex.asg rfl) ?_
          refine WL.nil ?_
          refine WX.next (?_)
          refine WC.seq ?_
          refine WC.region ?_
          refine WL.ex rfl rfl rfl (Ex.mv rfl) ?_
          refine WL.ex rfl rfl rfl (Ex.fa fl73_1 rfl) ?_
          refine WL.ex rfl rfl rfl (Ex.loadA ty28 rfl (l := bytesV a.h) (h32_len hao.h) (M147.rdt (i := 1) rfl (act_1 hao))) ?_
          refine WL.ac rfl rfl rfl (Ac.call rfl Tryd.func13 nm13 rfl (tAppend_ok w147 gc glc ge d vc ls a.h (M147.get (i := 0) rfl) hls hao.h hd (hT.keepF M147.keep hFT) (fun b hb => (M147.own _ (List.mem_of_getElem? (i := 0) rfl) b hb).elim (fun hle => hT.fresh hle) (fun f => hFT b f)))) ?_; rintro v152 w152 ⟨vc1, rfl, T152⟩
          
          have M152 := M147.turned (i := 0) rfl T152
          try dsimp only [List.set] at M152
          refine WL.nil ?_
          refine WX.next (?_)
          refine WC.seq ?_
          refine WC.region ?_
          refine WL.ex rfl rfl rfl (Ex.mv rfl) ?_
          refine WL.ac rfl rfl rfl (Ac.call rfl Tryd.func15 nm15 rfl (tCut_ok w152 gc glc ge d vc1 (tApp d ls a.h).2.2 0 (M152.get (i := 0) rfl) (tApp32 hls hao.h) (by decide) hd)) ?_; rintro v154 w154 ⟨vc2, rfl, T154⟩
          have M154 := M152.turned (i := 0) rfl T154
          try dsimp only [List.set] at M154
          refine WL.nil ?_
          refine WX.next (?_)
          refine WC.region ?_
          refine WL.ex rfl rfl rfl (Ex.mv rfl) ?_
          refine WL.ex rfl rfl rfl (Ex.fa fl73_1 rfl) ?_
          refine WL.ex rfl rfl rfl (Ex.loadA ty28 rfl (l := bytesV a.h) (h32_len hao.h) (M154.rdt (i := 1) rfl (act_1 hao))) ?_
          refine WL.ac rfl rfl rfl (Ac.call rfl Tryd.func13 nm13 rfl (tAppend_ok w154 gc glc ge d vc2 ((tApp d ls a.h).2.2.take 0) a.h (M154.get (i := 0) rfl) (take32 (tApp32 hls hao.h) 0) hao.h hd (hT.keepF M154.keep hFT) (fun b hb => (M154.own _ (List.mem_of_getElem? (i := 0) rfl) b hb).elim (fun hle => hT.fresh hle) (fun f => hFT b f)))) ?_; rintro v158 w158 ⟨vc3, rfl, T158⟩
          
          have M158 := M154.turned (i := 0) rfl T158
          try dsimp only [List.set] at M158
          refine WL.nil ?_
          refine WX.normal_block (WX.next (?_))
          refine WC.seq ?_
          refine WC.region ?_
          refine WL.ex rfl rfl rfl (Ex.mv rfl) ?_
          refine WL.ac rfl rfl rfl (Ac.call rfl Tryd.func16 nm16 rfl (tLen_ok w158 gt glt ge d _ _ ls (TreeS.of (M158.get (i := 3) rfl) (lvOf_len _ _)) (by rw [lvOf_get (by omega), levOf_zero]))) ?_; rintro v160 w160 ⟨rfl, K160⟩
          have M160 := M158.step K160
          refine WL.ex rfl rfl rfl (Ex.mv rfl) ?_
          refine WL.ex rfl rfl rfl (Ex.len Tryd.underlying22 rfl) ?_
          refine WL.ex rfl rfl rfl (Ex.cvI Tryd.underlying3 Tryd.underlying23 rfl (u64w_lt _ (by omega))) ?_
          refine WL.ex rfl rfl rfl (Ex.neI rfl rfl) ?_
          rw [show (!decide ((ls.length : Int) = (ls.length : Int))) = false by simp]
          refine WL.nil ?_
          refine WX.next (?_)
          refine WC.no rfl ?_
          refine WC.skip ?_
          refine WX.normal_block (WX.next (?_))
          refine WC.region ?_
          refine WL.ex rfl rfl rfl (Ex.add rfl rfl (i64w _ (by omega) (by omega))) ?_
          refine WL.ex rfl rfl rfl (Ex.mv rfl) ?_
          refine WL.nil ?_
          refine WX.again ((i + 1, gt, glt, vt, .slice Av ls.length cv, ls)) ?_ ?_ (.cons rfl (.cons rfl (.cons rfl (.cons rfl (.cons rfl (.cons rfl (.nil)))))))
          · dsimp only; omega
          · first
              | exact ⟨by dsimp only; omega, by dsimp only; omega, hl2, hls, (Mem.pick M160 [2, 3] (by decide) rfl)⟩
              | exact ⟨by dsimp only; omega, by dsimp only; rw [hl1]; omega, by dsimp only; rw [hl1]; omega, hls1, (Mem.pick M160 [2, 3] (by decide) rfl)⟩
              | exact ⟨by dsimp only; omega, by dsimp only; rw [htl]; omega, by dsimp only; rw [htl]; omega, take32 hls _, (Mem.pick M160 [2, 3] (by decide) rfl)⟩
        · skip
          refine WC.seq ?_
          refine WC.region ?_
          refine WL.ex rfl rfl rfl (Ex.mv rfl) ?_
          refine WL.ac rfl rfl rfl (Ac.call rfl Tryd.func31 nm31 rfl (tCopy_ok w13 gt glt ge d vt ls (TreeS.of (M13.get (i := 2) rfl) (lvOf_len _ _)) hls hd (by omega))) ?_; rintro v168 w168 ⟨gc, glc, vc, rfl, N168⟩
          have M168 := M13.new N168
          refine WL.ex rfl rfl rfl (Ex.asg rfl) ?_
          refine WL.nil ?_
          refine WX.next (?_)
          refine WC.seq ?_
          refine WC.region ?_
          refine WL.ex rfl rfl rfl (Ex.mv rfl) ?_
          refine WL.ex rfl rfl rfl (Ex.fa fl73_1 rfl) ?_
          refine WL.ex rfl rfl rfl (Ex.loadA ty28 rfl (l := bytesV a.h) (h32_len hao.h) (M168.rdt (i := 1) rfl (act_1 hao))) ?_
          refine WL.ac rfl rfl rfl (Ac.call rfl Tryd.func13 nm13 rfl (tAppend_ok w168 gt glt ge d vt ls a.h (M168.get (i := 3) rfl) hls hao.h hd (hT.keepF M168.keep hFT) (fun b hb => (M168.own _ (List.mem_of_getElem? (i := 3) rfl) b hb).elim (fun hle => hT.fresh hle) (fun f => hFT b f)))) ?_; rintro v173 w173 ⟨vt1, rfl, T173⟩
          
          have M173 := M168.turned (i := 3) rfl T173
          try dsimp only [List.set] at M173
          refine WL.nil ?_
          refine WX.next (?_)
          refine WC.region ?_
          refine WL.ex rfl rfl rfl (Ex.mv rfl) ?_
          refine WL.ex rfl rfl rfl (Ex.asg rfl) ?_
          refine WL.nil ?_
          refine WX.normal_block (WX.next (?_))
          refine WC.seq ?_
          refine WC.region ?_
          refine WL.ex rfl rfl rfl (Ex.mv rfl) ?_
          refine WL.ac rfl rfl rfl (Ac.call rfl Tryd.func16 nm16 rfl (tLen_ok w173 gc glc ge d _ _ ls (TreeS.of (M173.get (i := 0) rfl) (lvOf_len _ _)) (by rw [lvOf_get (by omega), levOf_zero]))) ?_; rintro v177 w177 ⟨rfl, K177⟩
          have M177 := M173.step K177
          refine WL.ex rfl rfl rfl (Ex.mv rfl) ?_
          refine WL.ex rfl rfl rfl (Ex.len Tryd.underlying22 rfl) ?_
          refine WL.ex rfl rfl rfl (Ex.cvI Tryd.underlying3 Tryd.underlying23 rfl (u64w_lt _ (by omega))) ?_
          refine WL.ex rfl rfl rfl (Ex.neI rfl rfl) ?_
          rw [show (!decide ((ls.length : Int) = (ls.length : Int))) = false by simp]
          refine WL.nil ?_
          refine WX.next (?_)
          refine WC.no rfl ?_
          refine WC.skip ?_
          refine WX.normal_block (WX.next (?_))
          refine WC.region ?_
          refine WL.ex rfl rfl rfl (Ex.add rfl rfl (i64w _ (by omega) (by omega))) ?_
          refine WL.ex rfl rfl rfl (Ex.mv rfl) ?_
          refine WL.nil ?_
          refine WX.again ((i + 1, gc, glc, vc, .slice Av ls.length cv, ls)) ?_ ?_ (.cons rfl (.cons rfl (.cons rfl (.cons rfl (.cons rfl (.cons rfl (.nil)))))))
          · dsimp only; omega
          · first
              | exact ⟨by dsimp only; omega, by dsimp only; omega, hl2, hls, (Mem.pick M177 [2, 0] (by decide) rfl)⟩
              | exact ⟨by dsimp only; omega, by dsimp only; rw [hl1]; omega, by dsimp only; rw [hl1]; omega, hls1, (Mem.pick M177 [2, 0] (by decide) rfl)⟩
              | exact ⟨by dsimp only; omega, by dsimp only; rw [htl]; omega, by dsimp only; rw [htl]; omega, take32 hls _, (Mem.pick M177 [2, 0] (by decide) rfl)⟩
  · obtain ⟨Av, cv, rfl⟩ := own_slice (M8.get (i := 0) rfl)
    refine WC.exit ?_
    refine WX.exit_then (WX.exit_then (WX.exit_block (WX.next (?_))))
    refine WC.seq ?_
    refine WC.region ?_
    refine WL.ex rfl rfl rfl (Ex.mv rfl) ?_
    refine WL.ex rfl rfl rfl (Ex.mv rfl) ?_
    refine WL.ex rfl rfl rfl (Ex.asg rfl) ?_
    refine WL.ex rfl rfl rfl (Ex.asg rfl) ?_
    refine WL.ex rfl rfl rfl (Ex.asg rfl) ?_
    refine WL.nil ?_
    refine WX.next (?_)
    refine WC.ret ?_
    refine WX.ret3 rfl rfl rfl rfl ?_
    have Mf : Mem w w8 (· ∈ (treeR g gl ge d vs (lvOf dNode e0 d [])).fp) [treeR gt glt ge d vt (lvOf dNode e0 d ls), row (.slice Av ls.length cv) 28 32 ls.length (fl ls)] := (Mem.pick M8 [1, 0] (by decide) rfl)
    exact ⟨_, _, _, _, _, _, rfl, hls, by omega, own_cap (M8.get (i := 0) rfl), (Mem.closeS Mf).toTurn⟩

end Go.Proofs.YtfgikoilgmddhaaDoor
