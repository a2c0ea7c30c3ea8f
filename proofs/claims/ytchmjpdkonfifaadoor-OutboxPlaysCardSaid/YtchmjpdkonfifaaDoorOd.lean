/- Walks, written by gen.py off the translation's own print: each says what the Go function comes to. -/
import Derived.Test.YtchmjpdkonfifaaDoorOc
set_option linter.unusedVariables false
set_option linter.unusedSimpArgs false
namespace Go.Proofs.YtchmjpdkonfifaaDoor
open Go.Sx Go.RowKit
attribute [local irreducible] Ac Ex WL WC WX WP Gives sha

/- sponsion/sponsionlaw19.play -/
theorem play19_ok (w : World) (go gt gl ge : Nat) (vs : List Value) (A : Option Addr) (c : Nat) (B : Option Addr) (d : Nat) (acts : List Ac9) (hR : (oR go gt gl ge vs A c []).sat w) (hr : Rd w B (acts.flatMap ac9C)) (hok : ∀ a ∈ acts, Ac9Ok a) (hrB : acts ≠ [] → ∀ b, B = some b → b.block ∉ (oR go gt gl ge vs A c []).fp) (hn : acts.length ≤ 30) (hT : Tabs w) (hFT : ∀ b ∈ (oR go gt gl ge vs A c []).fp, b ≠ 1 ∧ b ≠ 2) :
    Gives Tryd.prog 12 #[.pointer (some ⟨go, 0, none⟩), .slice B acts.length d] w fun u w1 => ∃ vs1 A1 c1 Aw cw, ∃ its : List Itt, u = .tuple #[.slice Aw its.length cw, .bool true] ∧ (∀ t ∈ its, IttOk t) ∧ its.length ≤ 30 ∧ its.length ≤ cw ∧ Turn w w1 (oR go gt gl ge vs A c []) (sep (oR go gt gl ge vs1 A1 c1 its) (row (.slice Aw its.length cw) 50 7 (its).length ((its).flatMap ittC))) := by
  obtain ⟨FF, hFF⟩ : ∃ FF : Nat → Prop, FF = (fun b => b ∈ (oR go gt gl ge vs A c []).fp) := ⟨_, rfl⟩
  have M0 : Mem w w FF [oR go gt gl ge vs A c []] := by rw [hFF]; exact Mem.begin hR
  replace M0 := M0.free (r := row (.slice none 0 0) 50 7 ([] : List Itt).length (([] : List Itt).flatMap ittC)) (row_nil _ _ _) rfl
  replace hrB : acts ≠ [] → ∀ b, B = some b → ¬ FF b.block := by rw [hFF]; exact hrB
  refine Gives.enter (n := 147) Tryd.func12 rfl Tryd.ntmps12 rfl (env := [(0, .pointer (some ⟨go, 0, none⟩)), (1, .slice B acts.length d)]) rfl ?_
  refine WC.seq ?_
  refine WC.region ?_
  refine WL.ex rfl rfl rfl (Ex.asg rfl) ?_
  refine WL.ex rfl rfl rfl (Ex.asg rfl) ?_
  refine WL.nil ?_
  refine WX.next (?_)
  refine WC.seq ?_
  refine WC.region ?_
  refine WL.ex rfl rfl rfl (Ex.asg rfl) ?_
  refine WL.nil ?_
  refine WX.next (?_)
  refine WC.seq ?_
  refine WC.seq ?_
  refine WC.region ?_
  refine WL.ex rfl rfl rfl (Ex.mv rfl) ?_
  refine WL.ex rfl rfl rfl (Ex.len Tryd.underlying22 rfl) ?_
  refine WL.ex rfl rfl rfl (Ex.mv rfl) ?_
  refine WL.nil ?_
  refine WX.next (?_)
  refine WC.block ?_
  refine WC.loop (σ := Nat × List Value × Option Addr × Nat × Value × List Itt) (fun s => [(0, .pointer (some ⟨go, 0, none⟩)), (6, s.2.2.2.2.1), (14, .slice B acts.length d), (15, .int .i64 (acts.length : Int)), (16, .int .i64 (s.1 : Int))]) (fun s wr => s.1 ≤ acts.length ∧ s.2.2.2.2.2.length ≤ s.1 ∧ (∀ t ∈ s.2.2.2.2.2, IttOk t) ∧ Mem w wr FF [row s.2.2.2.2.1 50 7 (s.2.2.2.2.2).length ((s.2.2.2.2.2).flatMap ittC), oR go gt gl ge s.2.1 s.2.2.1 s.2.2.2.1 s.2.2.2.2.2]) (fun s => acts.length - s.1) (((0, vs, A, c, .slice none 0 0, []) : Nat × List Value × Option Addr × Nat × Value × List Itt)) ?_ (.cons rfl (.cons rfl (.cons rfl (.cons rfl (.cons rfl (.nil)))))) ?_
  · exact ⟨by simp, by simp, by simp, M0⟩
  rintro ⟨i, vs1, A1, c1, v, its⟩ w7 ⟨hi, hli, hok2, M7⟩
  dsimp only at hi hli hok2 M7
  refine WC.sub (env' := [(0, .pointer (some ⟨go, 0, none⟩)), (6, v), (14, .slice B acts.length d), (15, .int .i64 (acts.length : Int)), (16, .int .i64 (i : Int))]) (.cons rfl (.cons rfl (.cons rfl (.cons rfl (.cons rfl (.nil)))))) ?_
  refine WC.seq ?_
  refine WC.region ?_
  refine WL.ex rfl rfl rfl (Ex.lss rfl rfl) ?_
  refine WL.nil ?_
  refine WX.next (?_)
  refine WC.seq ?_
  refine WC.cond_dec rfl (fun hc17 => ?_) (fun hc17 => ?_)
  · obtain ⟨a, hai⟩ : ∃ p, acts[i]? = some p := ⟨_, List.getElem?_eq_getElem (by omega)⟩
    have ham := List.mem_of_getElem? hai
    have hao := hok a ham
    have hax := hao.x
    obtain ⟨b0, o0, hA0⟩ := hr.flat_plain ham (by rw [ac9_len hao]; omega)
    have hb0 := hrB (fun h => by rw [h] at hai; simp at hai) _ hA0
    subst hA0
    obtain ⟨Av, cv, rfl⟩ := own_slice (M7.get (i := 0) rfl)
    refine WC.skip ?_
    refine WX.next (?_)
    refine WC.seq ?_
    refine WC.block ?_
    refine WC.seq ?_
    refine WC.region ?_
    refine WL.ex rfl rfl rfl (Ex.ia Tryd.underlying22 sz95 rfl rfl ⟨by omega, by omega⟩) ?_
    refine WL.ex rfl rfl rfl (Ex.loadA ty95 rfl (l := ac9C a) (ac9_len hao) (Rd.flat (hr.keep M7.keep (fun b hb hm => by injection hb with hb; subst hb; exact hb0 hm)) (i := (i : Int).toNat) (fun a ha => ac9_len (hok a ha)) (by simpa using hai))) ?_
    refine WL.ac rfl rfl rfl (Ac.alloc M7 (l := ac9C ac90) (by kernel_rfl)) ?_; rintro v11 w11 ⟨ga, rfl, hg11, K11, M11⟩
    refine WL.ac0 rfl rfl (Ac.stA M11 ty95 rfl rfl (vs := ac9C a) rfl (ac9_len hao) ac9_one (i := 0) rfl (by rw [ac9_len hao, ac9_len ac90_ok]; decide)) ?_; rintro v12 w12 ⟨K12, M12⟩
    try dsimp only [List.set] at M12
    rw [splice_all _ _ (by rw [ac9_len hao, ac9_len ac90_ok])] at M12
    refine WL.nil ?_
    refine WX.next (?_)
    refine WC.seq ?_
    refine WC.seq ?_
    refine WC.region ?_
    refine WL.ex rfl rfl rfl (Ex.fa fl95_0 rfl) ?_
    refine WL.ex rfl rfl rfl (Ex.load ty5 rfl (M12.cell (i := 0) rfl (ac9_g0 (by first | assumption | exact ac90_ok)))) ?_
    refine WL.ex rfl rfl rfl (Ex.rem rfl rfl (by decide) (c := ((a.kind % 3 : Nat) : Int)) (tmodT _ 3)) ?_
    refine WL.nil ?_
    refine WX.next (?_)
    refine WC.block ?_
    refine WC.seq ?_
    refine WC.region ?_
    refine WL.ex rfl rfl rfl (Ex.eqI rfl rfl) ?_
    refine WL.ex rfl rfl rfl (Ex.asg rfl) ?_
    refine WL.nil ?_
    refine WX.next (?_)
    refine WC.cond_dec rfl (fun h41 => ?_) (fun h41 => ?_)
    · obtain ⟨X, hX⟩ : ∃ X : Itt, X = ⟨its.length, a.x.tk, a.x.ow, a.x.am⟩ := ⟨_, rfl⟩
      have hXo : IttOk X := by rw [hX]; exact ⟨by show its.length < 4294967296; omega, hao.x.tk, hao.x.ow, hao.x.am⟩
      have hny := nxI_ok hXo
      refine WC.seq ?_
      refine WC.region ?_
      refine WL.ex rfl rfl rfl (Ex.mv rfl) ?_
      refine WL.ex rfl rfl rfl (Ex.len Tryd.underlying27 rfl) ?_
      refine WL.ex rfl rfl rfl (Ex.cvI Tryd.underlying3 Tryd.underlying46 rfl (u32w_lt _ (by omega))) ?_
      refine WL.ex rfl rfl rfl (Ex.fa fl95_1 rfl) ?_
      refine WL.ex rfl rfl rfl (Ex.fa fl50_1 rfl) ?_
      refine WL.ex rfl rfl rfl (Ex.load ty5 rfl (M12.cell (i := 0) rfl (nest_one (ac9_g1 (by first | assumption | exact ac90_ok)) (itt_g1 (Ac9Ok.x (by first | assumption | exact ac90_ok))) (by decide)))) ?_
      refine WL.ex rfl rfl rfl (Ex.fa fl95_1 rfl) ?_
      refine WL.ex rfl rfl rfl (Ex.fa fl50_2 rfl) ?_
      refine WL.ex rfl rfl rfl (Ex.load ty5 rfl (M12.cell (i := 0) rfl (nest_one (ac9_g1 (by first | assumption | exact ac90_ok)) (itt_g2 (Ac9Ok.x (by first | assumption | exact ac90_ok))) (by decide)))) ?_
      refine WL.ex rfl rfl rfl (Ex.fa fl95_1 rfl) ?_
      refine WL.ex rfl rfl rfl (Ex.fa fl50_3 rfl) ?_
      refine WL.ex rfl rfl rfl (Ex.loadA ty48 rfl (l := intV a.x.am) (int4_len hao.x.am) (M12.rdt (i := 0) rfl (act_am hao))) ?_
      refine WL.ex rfl rfl rfl (Ex.bldS bd50 (parts := [(0, .tmp 45), (1, .tmp 48), (2, .tmp 51), (3, .tmp 54)]) _ rfl rfl rfl (bldItt (ix := its.length) (tk := a.x.tk) (ow := a.x.ow) (am := a.x.am) hao.x.am.1)) ?_
      rw [← hX]
      refine WL.ac rfl rfl rfl (Ac.alloc M12 (l := ittC itt0) (by kernel_rfl)) ?_; rintro v31 w31 ⟨gx, rfl, hg31, K31, M31⟩
      refine WL.ac0 rfl rfl (Ac.stA M31 ty50 rfl rfl rfl (itt_len (by first | assumption | exact itt0_ok)) itt_one (i := 0) rfl (by first | (rw [itt_len (by first | assumption | exact itt0_ok), itt_len (by first | assumption | exact itt0_ok)]; decide) | (rw [itt_len (by first | assumption | exact itt0_ok)]; decide) | rw [itt_len (by first | assumption | exact itt0_ok)])) ?_; rintro v32 w32 ⟨K32, M32⟩
      try dsimp only [List.set] at M32
      rw [splice_all _ _ (by first | rw [itt_len (by first | assumption | exact itt0_ok), itt_len (by first | assumption | exact itt0_ok)] | rw [itt_len (by first | assumption | exact itt0_ok)])] at M32
      refine WL.nil ?_
      refine WX.next (?_)
      refine WC.seq ?_
      refine WC.region ?_
      refine WL.ex rfl rfl rfl (Ex.mv rfl) ?_
      refine WL.ex rfl rfl rfl (Ex.fa fl50_1 rfl) ?_
      refine WL.ex rfl rfl rfl (Ex.load ty5 rfl (M32.cell (i := 0) rfl (itt_g1 (by first | assumption | exact itt0_ok)))) ?_
      refine WL.ex rfl rfl rfl (Ex.fa fl50_2 rfl) ?_
      refine WL.ex rfl rfl rfl (Ex.load ty5 rfl (M32.cell (i := 0) rfl (itt_g2 (by first | assumption | exact itt0_ok)))) ?_
      refine WL.ex rfl rfl rfl (Ex.fa fl50_3 rfl) ?_
      refine WL.ex rfl rfl rfl (Ex.loadA ty48 rfl (int4_len (IttOk.am (by first | assumption | exact itt0_ok))) (M32.rdt (i := 0) rfl (itt_g3 (by first | assumption | exact itt0_ok)))) ?_
      refine WL.ac rfl rfl rfl (Ac.call rfl Tryd.func23 nm23 rfl (oNext_ok w32 go gt gl ge vs1 A1 c1 its X.tk X.ow X.am (OxS.of (M32.get (i := 3) rfl)) (by omega) hXo.tk hXo.ow hXo.am)) ?_; rintro v40 w40 ⟨rfl, K40⟩
      rw [show (⟨its.length, X.tk, X.ow, X.am⟩ : Itt) = X by rw [hX]]
      have M40 := M32.step K40
      refine WL.ex rfl rfl rfl (Ex.mv rfl) ?_
      refine WL.ex rfl rfl rfl (Ex.ext rfl rfl) ?_
      refine WL.ex rfl rfl rfl (Ex.ext rfl rfl) ?_
      refine WL.ac rfl rfl rfl (Ac.alloc M40 (l := ittC itt0) (by kernel_rfl)) ?_; rintro v44 w44 ⟨gy, rfl, hg44, K44, M44⟩
      refine WL.ac0 rfl rfl (Ac.stA M44 ty50 rfl rfl rfl (itt_len (by first | assumption | exact itt0_ok)) itt_one (i := 0) rfl (by first | (rw [itt_len (by first | assumption | exact itt0_ok), itt_len (by first | assumption | exact itt0_ok)]; decide) | (rw [itt_len (by first | assumption | exact itt0_ok)]; decide) | rw [itt_len (by first | assumption | exact itt0_ok)])) ?_; rintro v45 w45 ⟨K45, M45⟩
      try dsimp only [List.set] at M45
      rw [splice_all _ _ (by first | rw [itt_len (by first | assumption | exact itt0_ok), itt_len (by first | assumption | exact itt0_ok)] | rw [itt_len (by first | assumption | exact itt0_ok)])] at M45
      refine WL.ex rfl rfl rfl (Ex.asg rfl) ?_
      refine WL.nil ?_
      refine WX.next (?_)
      refine WC.seq ?_
      refine WC.seq ?_
      refine WC.region ?_
      refine WL.ex rfl rfl rfl (Ex.loadA ty50 rfl (itt_len (by first | assumption | exact itt0_ok)) (M45.rdw (i := 1) rfl)) ?_
      refine WL.ac rfl rfl rfl (Ac.call rfl Tryd.func43 nm43 rfl (may7_ok w45 _ hXo)) ?_; rintro v48 w48 ⟨rfl, K48⟩
      have M48 := M45.step K48
      by_cases hm : mayI X
      · rw [decide_eq_true hm]
        have hne : nxI X = (X, 0) := if_pos hm
        rw [hne] at M48 ⊢
        dsimp only at M48
        obtain ⟨had, hal⟩ := ad_0 (its := its) hm (by rw [hX])
        refine WL.ex rfl rfl rfl (Ex.not rfl) ?_
        refine WL.nil ?_
        refine WX.next (?_)
        refine WC.no rfl ?_
        refine WC.skip ?_
        refine WX.next (?_)
        refine WC.seq ?_
        refine WC.seq ?_
        refine WC.region ?_
        refine WL.ex rfl rfl rfl (Ex.mv rfl) ?_
        refine WL.ex rfl rfl rfl (Ex.neI rfl rfl) ?_
        rw [show (!decide ((0 : Int) = 0)) = false from rfl]
        refine WL.ex rfl rfl rfl (Ex.mv rfl) ?_
        refine WL.yes rfl rfl rfl rfl ?_
        refine WL.ex rfl rfl rfl (Ex.loadA ty50 rfl (l := ittC X) (itt_len hXo) (M48.rdw (i := 0) rfl)) ?_
        refine WL.yes rfl rfl rfl rfl ?_
        refine WL.ex rfl rfl rfl (Ex.loadA ty50 rfl (itt_len (by first | assumption | exact itt0_ok)) (M48.rdw (i := 1) rfl)) ?_
        refine WL.yes rfl rfl rfl rfl ?_
        refine WL.ex rfl rfl rfl (Ex.neA rfl rfl (eqItt w hXo hXo)) ?_
        rw [decide_eq_true rfl]
        refine WL.ex rfl rfl rfl (Ex.pickF rfl rfl) ?_
        refine WL.ex rfl rfl rfl (Ex.mv rfl) ?_
        refine WL.yes rfl rfl rfl rfl ?_
        refine WL.ex rfl rfl rfl (Ex.mv rfl) ?_
        refine WL.yes rfl rfl rfl rfl ?_
        refine WL.ac rfl rfl rfl (Ac.call rfl Tryd.func25 nm25 rfl (oLen_ok w48 go gt gl ge vs1 A1 c1 its (OxS.of (M48.get (i := 4) rfl)) (by omega))) ?_; rintro v59 w59 ⟨rfl, K59⟩
        have M59 := M48.step K59
        refine WL.yes rfl rfl rfl rfl ?_
        refine WL.ex rfl rfl rfl (Ex.mv rfl) ?_
        refine WL.yes rfl rfl rfl rfl ?_
        refine WL.ex rfl rfl rfl (Ex.len Tryd.underlying27 rfl) ?_
        refine WL.yes rfl rfl rfl rfl ?_
        refine WL.ex rfl rfl rfl (Ex.cvI Tryd.underlying3 Tryd.underlying23 rfl (u64w_lt _ (by omega))) ?_
        refine WL.yes rfl rfl rfl rfl ?_
        refine WL.ex rfl rfl rfl (Ex.neI rfl rfl) ?_
        rw [decide_eq_true rfl]
        refine WL.ex rfl rfl rfl (Ex.pickF rfl rfl) ?_
        refine WL.ex rfl rfl rfl (Ex.mv rfl) ?_
        refine WL.yes rfl rfl rfl rfl ?_
        refine WL.ex rfl rfl rfl (Ex.mv rfl) ?_
        refine WL.yes rfl rfl rfl rfl ?_
        refine WL.ex rfl rfl rfl (Ex.loadA ty50 rfl (l := ittC X) (itt_len hXo) (M59.rdw (i := 0) rfl)) ?_
        refine WL.yes rfl rfl rfl rfl ?_
        refine WL.ac rfl rfl rfl (Ac.call rfl Tryd.func24 nm24 rfl (oAdd_ok w59 go gt gl ge vs1 A1 c1 its X (M59.get (i := 4) rfl) hXo hok2 (by omega) (by have k := M59.keep; rw [hFF] at k; exact hT.keepF k hFT) (fun b hb => (M59.own _ (List.mem_of_getElem? (i := 4) rfl) b hb).elim (fun hle => hT.fresh hle) (fun f => hFT b (by rw [hFF] at f; exact f))))) ?_; rintro v68 w68 ⟨vs2, A2, c2, rfl, T68⟩
        rw [hal] at T68
        rw [had]
        have M68 := M59.turned (i := 4) rfl T68
        try dsimp only [List.set] at M68
        refine WL.yes rfl rfl rfl rfl ?_
        refine WL.ex rfl rfl rfl (Ex.neI rfl rfl) ?_
        rw [show (!decide ((0 : Int) = 0)) = false from rfl]
        refine WL.ex rfl rfl rfl (Ex.pickF rfl rfl) ?_
        refine WL.nil ?_
        refine WX.next (?_)
        refine WC.no rfl ?_
        refine WC.skip ?_
        refine WX.next (?_)
        have D71 := Keep.drew nof w68
        have M71 := M68.step D71
        refine WC.draw (Keep (FP M71 [3]) w68.drew) [] (.one 1 0 (.one 3 1 (.two 0 (.two 2 (.one 4 2 (.one 5 2 (.one 6 0 .nil))) 4 (.one 2 2 (.one 5 2 (.one 6 0 .nil)))) 4 (.one 0 2 (.one 2 2 (.one 5 2 (.one 6 0 .nil))))))) mixed (by kernel_rfl) (by kernel_rfl) (by kernel_rfl) (HQ.block (HQ.then_ (HQ.block (HQ.then_ (HQ.then_ (HQ.block (HQ.then_ HQ.body))))))) ?_
        revert D71 M71; generalize w68.drew = w71; intro D71 M71
        have B71 : Mem w71 w71 (FP M71 [3]) [_] := M71.base [3] (by decide)
        refine WP.p rfl rfl rfl rfl (fun _ => Ex.mv rfl) ?_
        refine WP.q B71.keep rfl rfl rfl rfl (fun w' hS => Ex.loadA ty50 rfl (l := ittC X) (itt_len hXo) (M71.fp_rdw (j := 1) hS rfl rfl)) ?_
        refine WP.two ?_ ?_
        · skip
          refine WP.a rfl rfl rfl rfl (Ac.bs0 M71 Tryd.underlying27 sz50) ?_; rintro v74 w74 ⟨gn, rfl, hg74, K74, M74⟩
          have B74 := B71.grow (r := row (.slice (some ⟨gn, 0, none⟩) 0 0) 50 7 0 []) K74 (M74.get (i := 0) rfl) (by intro b hb; simp [row, Value.ownBlock] at hb; omega)
          refine .inr ⟨fun _ => B74.keep, ?_⟩
          refine WP.two ?_ ?_
          · skip
            refine WP.a rfl rfl rfl rfl (Ac.appT el27 (M74.get (i := 0) rfl) rfl rfl (its_len hok2) (M74.rdr (i := 4) rfl) (its_one _) (by omega) (by unfold maxLen; omega)) ?_; rintro v75 w75 T75
            rw [Nat.zero_add, List.nil_append] at T75
            have B75 := B74.turned (i := 0) rfl T75
            refine .inr ⟨fun _ => B75.keep, ?_⟩
            have M75 := M74.turned (i := 0) rfl T75
            try dsimp only [List.set] at M75
            refine WP.a rfl rfl rfl rfl (Ac.bs M75 (parts := [(0, .tmp 103)]) rfl rfl (LitS.agg1 el27 rfl (itt_len hXo) (by decide))) ?_; rintro v76 w76 ⟨g1_, rfl, hg76, K76, M76⟩
            have B76 := B75.step K76
            refine .inr ⟨fun _ => B76.keep, ?_⟩
            refine WP.a rfl rfl rfl rfl (Ac.appT el27 (M76.get (i := 1) rfl) rfl rfl (by rw [itt_len hXo]) (M76.rdw (i := 0) rfl) itt_one (by omega) (by unfold maxLen; omega)) ?_; rintro v77 w77 T77
            have B77 := B76.turned (i := 0) rfl T77
            refine .inr ⟨fun _ => B77.keep, ?_⟩
            rw [show its.flatMap ittC ++ ittC X = (its ++ [X]).flatMap ittC by simp, show its.length + 1 = (its ++ [X]).length by simp] at T77
            have M77 := M76.turned (i := 1) rfl T77
            try dsimp only [List.set] at M77
            obtain ⟨An, cn, rfl⟩ := own_slice (M77.get (i := 1) rfl)
            have hok3 : ∀ t ∈ its ++ [X], IttOk t := fun t ht => (List.mem_append.1 ht).elim (hok2 t) (fun h => by obtain rfl : t = X := (by simpa using h); exact hXo)
            have hl3 : (its ++ [X]).length = its.length + 1 := by simp
            refine WP.p rfl rfl rfl rfl (fun _ => Ex.asg rfl) ?_
            refine WP.nil ?_
            refine WX.normal_block (WX.next (?_))
            refine WC.seq ?_
            refine WC.region ?_
            refine WL.ex rfl rfl rfl (Ex.mv rfl) ?_
            refine WL.ac rfl rfl rfl (Ac.call rfl Tryd.func25 nm25 rfl (oLen_ok w77 go gt gl ge vs2 A2 c2 (its ++ [X]) (OxS.of (M77.get (i := 6) rfl)) (by first | omega | (rw [hl3]; omega) | (rw [htl]; omega)))) ?_; rintro v80 w80 ⟨rfl, K80⟩
            have M80 := M77.step K80
            refine WL.ex rfl rfl rfl (Ex.mv rfl) ?_
            refine WL.ex rfl rfl rfl (Ex.len Tryd.underlying27 rfl) ?_
            refine WL.ex rfl rfl rfl (Ex.cvI Tryd.underlying3 Tryd.underlying23 rfl (u64w_lt _ (by first | omega | (rw [hl3]; omega)))) ?_
            refine WL.ex rfl rfl rfl (Ex.neI rfl rfl) ?_
            rw [decide_eq_true rfl]
            refine WL.nil ?_
            refine WX.next (?_)
            refine WC.no rfl ?_
            refine WC.skip ?_
            refine WX.normal_block (WX.next (?_))
            refine WC.region ?_
            refine WL.ex rfl rfl rfl (Ex.add rfl rfl (i64w _ (by omega) (by omega))) ?_
            refine WL.ex rfl rfl rfl (Ex.mv rfl) ?_
            refine WL.nil ?_
            refine WX.again (((i + 1, vs2, A2, c2, .slice An (its ++ [X]).length cn, its ++ [X]) : Nat × List Value × Option Addr × Nat × Value × List Itt)) ?_ ?_ (.cons rfl (.cons rfl (.cons rfl (.cons rfl (.cons rfl (.nil))))))
            · dsimp only; omega
            · first
                | exact ⟨by dsimp only; omega, by dsimp only; omega, hok2, (Mem.pick M80 [1, 6] (by decide) rfl)⟩
                | exact ⟨by dsimp only; omega, by dsimp only; rw [hl3]; omega, hok3, (Mem.pick M80 [1, 6] (by decide) rfl)⟩
                | exact ⟨by dsimp only; omega, by dsimp only; rw [htl]; omega, fun t ht => hok2 t (List.mem_of_mem_take ht), (Mem.pick M80 [1, 6] (by decide) rfl)⟩
          · skip
            refine WP.a rfl rfl rfl rfl (Ac.bs M74 (parts := [(0, .tmp 103)]) rfl rfl (LitS.agg1 el27 rfl (itt_len hXo) (by decide))) ?_; rintro v87 w87 ⟨g1_, rfl, hg87, K87, M87⟩
            have B87 := B74.step K87
            refine .inr ⟨fun _ => B87.keep, ?_⟩
            refine WP.a rfl rfl rfl rfl (Ac.appT el27 (M87.get (i := 1) rfl) rfl rfl (its_len hok2) (M87.rdr (i := 5) rfl) (its_one _) (by omega) (by unfold maxLen; omega)) ?_; rintro v88 w88 T88
            rw [Nat.zero_add, List.nil_append] at T88
            have B88 := B87.turned (i := 0) rfl T88
            refine .inr ⟨fun _ => B88.keep, ?_⟩
            have M88 := M87.turned (i := 1) rfl T88
            try dsimp only [List.set] at M88
            refine WP.a rfl rfl rfl rfl (Ac.appT el27 (M88.get (i := 1) rfl) rfl rfl (by rw [itt_len hXo]) (M88.rdw (i := 0) rfl) itt_one (by omega) (by unfold maxLen; omega)) ?_; rintro v89 w89 T89
            have B89 := B88.turned (i := 0) rfl T89
            refine .inr ⟨fun _ => B89.keep, ?_⟩
            rw [show its.flatMap ittC ++ ittC X = (its ++ [X]).flatMap ittC by simp, show its.length + 1 = (its ++ [X]).length by simp] at T89
            have M89 := M88.turned (i := 1) rfl T89
            try dsimp only [List.set] at M89
            obtain ⟨An, cn, rfl⟩ := own_slice (M89.get (i := 1) rfl)
            have hok3 : ∀ t ∈ its ++ [X], IttOk t := fun t ht => (List.mem_append.1 ht).elim (hok2 t) (fun h => by obtain rfl : t = X := (by simpa using h); exact hXo)
            have hl3 : (its ++ [X]).length = its.length + 1 := by simp
            refine WP.p rfl rfl rfl rfl (fun _ => Ex.asg rfl) ?_
            refine WP.nil ?_
            refine WX.normal_block (WX.next (?_))
            refine WC.seq ?_
            refine WC.region ?_
            refine WL.ex rfl rfl rfl (Ex.mv rfl) ?_
            refine WL.ac rfl rfl rfl (Ac.call rfl Tryd.func25 nm25 rfl (oLen_ok w89 go gt gl ge vs2 A2 c2 (its ++ [X]) (OxS.of (M89.get (i := 6) rfl)) (by first | omega | (rw [hl3]; omega) | (rw [htl]; omega)))) ?_; rintro v92 w92 ⟨rfl, K92⟩
            have M92 := M89.step K92
            refine WL.ex rfl rfl rfl (Ex.mv rfl) ?_
            refine WL.ex rfl rfl rfl (Ex.len Tryd.underlying27 rfl) ?_
            refine WL.ex rfl rfl rfl (Ex.cvI Tryd.underlying3 Tryd.underlying23 rfl (u64w_lt _ (by first | omega | (rw [hl3]; omega)))) ?_
            refine WL.ex rfl rfl rfl (Ex.neI rfl rfl) ?_
            rw [decide_eq_true rfl]
            refine WL.nil ?_
            refine WX.next (?_)
            refine WC.no rfl ?_
            refine WC.skip ?_
            refine WX.normal_block (WX.next (?_))
            refine WC.region ?_
            refine WL.ex rfl rfl rfl (Ex.add rfl rfl (i64w _ (by omega) (by omega))) ?_
            refine WL.ex rfl rfl rfl (Ex.mv rfl) ?_
            refine WL.nil ?_
            refine WX.again (((i + 1, vs2, A2, c2, .slice An (its ++ [X]).length cn, its ++ [X]) : Nat × List Value × Option Addr × Nat × Value × List Itt)) ?_ ?_ (.cons rfl (.cons rfl (.cons rfl (.cons rfl (.cons rfl (.nil))))))
            · dsimp only; omega
            · first
                | exact ⟨by dsimp only; omega, by dsimp only; omega, hok2, (Mem.pick M92 [1, 6] (by decide) rfl)⟩
                | exact ⟨by dsimp only; omega, by dsimp only; rw [hl3]; omega, hok3, (Mem.pick M92 [1, 6] (by decide) rfl)⟩
                | exact ⟨by dsimp only; omega, by dsimp only; rw [htl]; omega, fun t ht => hok2 t (List.mem_of_mem_take ht), (Mem.pick M92 [1, 6] (by decide) rfl)⟩
        · skip
          refine WP.a rfl rfl rfl rfl (Ac.bs M71 (parts := [(0, .tmp 103)]) rfl rfl (LitS.agg1 el27 rfl (itt_len hXo) (by decide))) ?_; rintro v99 w99 ⟨g1_, rfl, hg99, K99, M99⟩
          have B99 := B71.step K99
          refine .inr ⟨fun _ => B99.keep, ?_⟩
          refine WP.a rfl rfl rfl rfl (Ac.bs0 M99 Tryd.underlying27 sz50) ?_; rintro v100 w100 ⟨gn, rfl, hg100, K100, M100⟩
          have B100 := B99.grow (r := row (.slice (some ⟨gn, 0, none⟩) 0 0) 50 7 0 []) K100 (M100.get (i := 0) rfl) (by intro b hb; simp [row, Value.ownBlock] at hb; omega)
          refine .inr ⟨fun _ => B100.keep, ?_⟩
          refine WP.a rfl rfl rfl rfl (Ac.appT el27 (M100.get (i := 0) rfl) rfl rfl (its_len hok2) (M100.rdr (i := 5) rfl) (its_one _) (by omega) (by unfold maxLen; omega)) ?_; rintro v101 w101 T101
          rw [Nat.zero_add, List.nil_append] at T101
          have B101 := B100.turned (i := 0) rfl T101
          refine .inr ⟨fun _ => B101.keep, ?_⟩
          have M101 := M100.turned (i := 0) rfl T101
          try dsimp only [List.set] at M101
          refine WP.a rfl rfl rfl rfl (Ac.appT el27 (M101.get (i := 0) rfl) rfl rfl (by rw [itt_len hXo]) (M101.rdw (i := 1) rfl) itt_one (by omega) (by unfold maxLen; omega)) ?_; rintro v102 w102 T102
          have B102 := B101.turned (i := 0) rfl T102
          refine .inr ⟨fun _ => B102.keep, ?_⟩
          rw [show its.flatMap ittC ++ ittC X = (its ++ [X]).flatMap ittC by simp, show its.length + 1 = (its ++ [X]).length by simp] at T102
          have M102 := M101.turned (i := 0) rfl T102
          try dsimp only [List.set] at M102
          obtain ⟨An, cn, rfl⟩ := own_slice (M102.get (i := 0) rfl)
          have hok3 : ∀ t ∈ its ++ [X], IttOk t := fun t ht => (List.mem_append.1 ht).elim (hok2 t) (fun h => by obtain rfl : t = X := (by simpa using h); exact hXo)
          have hl3 : (its ++ [X]).length = its.length + 1 := by simp
          refine WP.p rfl rfl rfl rfl (fun _ => Ex.asg rfl) ?_
          refine WP.nil ?_
          refine WX.normal_block (WX.next (?_))
          refine WC.seq ?_
          refine WC.region ?_
          refine WL.ex rfl rfl rfl (Ex.mv rfl) ?_
          refine WL.ac rfl rfl rfl (Ac.call rfl Tryd.func25 nm25 rfl (oLen_ok w102 go gt gl ge vs2 A2 c2 (its ++ [X]) (OxS.of (M102.get (i := 6) rfl)) (by first | omega | (rw [hl3]; omega) | (rw [htl]; omega)))) ?_; rintro v105 w105 ⟨rfl, K105⟩
          have M105 := M102.step K105
          refine WL.ex rfl rfl rfl (Ex.mv rfl) ?_
          refine WL.ex rfl rfl rfl (Ex.len Tryd.underlying27 rfl) ?_
          refine WL.ex rfl rfl rfl (Ex.cvI Tryd.underlying3 Tryd.underlying23 rfl (u64w_lt _ (by first | omega | (rw [hl3]; omega)))) ?_
          refine WL.ex rfl rfl rfl (Ex.neI rfl rfl) ?_
          rw [decide_eq_true rfl]
          refine WL.nil ?_
          refine WX.next (?_)
          refine WC.no rfl ?_
          refine WC.skip ?_
          refine WX.normal_block (WX.next (?_))
          refine WC.region ?_
          refine WL.ex rfl rfl rfl (Ex.add rfl rfl (i64w _ (by omega) (by omega))) ?_
          refine WL.ex rfl rfl rfl (Ex.mv rfl) ?_
          refine WL.nil ?_
          refine WX.again (((i + 1, vs2, A2, c2, .slice An (its ++ [X]).length cn, its ++ [X]) : Nat × List Value × Option Addr × Nat × Value × List Itt)) ?_ ?_ (.cons rfl (.cons rfl (.cons rfl (.cons rfl (.cons rfl (.nil))))))
          · dsimp only; omega
          · first
              | exact ⟨by dsimp only; omega, by dsimp only; omega, hok2, (Mem.pick M105 [0, 6] (by decide) rfl)⟩
              | exact ⟨by dsimp only; omega, by dsimp only; rw [hl3]; omega, hok3, (Mem.pick M105 [0, 6] (by decide) rfl)⟩
              | exact ⟨by dsimp only; omega, by dsimp only; rw [htl]; omega, fun t ht => hok2 t (List.mem_of_mem_take ht), (Mem.pick M105 [0, 6] (by decide) rfl)⟩
      · rw [decide_eq_false hm]
        have hne : nxI X = (itt0, 6) := if_neg hm
        rw [hne] at M48 ⊢
        dsimp only at M48
        refine WL.ex rfl rfl rfl (Ex.not rfl) ?_
        refine WL.nil ?_
        refine WX.next (?_)
        refine WC.yes rfl ?_
        refine WC.seq ?_
        refine WC.seq ?_
        refine WC.region ?_
        refine WL.ex rfl rfl rfl (Ex.mv rfl) ?_
        refine WL.ex rfl rfl rfl (Ex.neI rfl rfl) ?_
        rw [decide_eq_true rfl]
        refine WL.ex rfl rfl rfl (Ex.mv rfl) ?_
        refine WL.yes rfl rfl rfl rfl ?_
        refine WL.ex rfl rfl rfl (Ex.loadA ty50 rfl (l := ittC itt0) (itt_len itt0_ok) (M48.rdw (i := 0) rfl)) ?_
        refine WL.yes rfl rfl rfl rfl ?_
        refine WL.ex rfl rfl rfl (Ex.bld bd50 (parts := []) (l := ittC itt0) rfl rfl rfl rfl) ?_
        refine WL.yes rfl rfl rfl rfl ?_
        refine WL.ex rfl rfl rfl (Ex.neA rfl rfl (eqItt w itt0_ok itt0_ok)) ?_
        rw [decide_eq_true rfl]
        refine WL.ex rfl rfl rfl (Ex.pickF rfl rfl) ?_
        refine WL.nil ?_
        refine WX.next (?_)
        refine WC.no rfl ?_
        refine WC.skip ?_
        refine WX.next (?_)
        refine WC.exit ?_
        refine WX.exit_then (WX.exit_other rfl (WX.exit_then (WX.exit_block (WX.next (?_)))))
        refine WC.region ?_
        refine WL.ex rfl rfl rfl (Ex.add rfl rfl (i64w _ (by omega) (by omega))) ?_
        refine WL.ex rfl rfl rfl (Ex.mv rfl) ?_
        refine WL.nil ?_
        refine WX.again (((i + 1, vs1, A1, c1, .slice Av its.length cv, its) : Nat × List Value × Option Addr × Nat × Value × List Itt)) ?_ ?_ (.cons rfl (.cons rfl (.cons rfl (.cons rfl (.cons rfl (.nil))))))
        · dsimp only; omega
        · first
            | exact ⟨by dsimp only; omega, by dsimp only; omega, hok2, (Mem.pick M48 [3, 4] (by decide) rfl)⟩
            | exact ⟨by dsimp only; omega, by dsimp only; rw [hl3]; omega, hok3, (Mem.pick M48 [3, 4] (by decide) rfl)⟩
            | exact ⟨by dsimp only; omega, by dsimp only; rw [htl]; omega, fun t ht => hok2 t (List.mem_of_mem_take ht), (Mem.pick M48 [3, 4] (by decide) rfl)⟩
    · skip
      refine WC.seq ?_
      refine WC.region ?_
      refine WL.ex rfl rfl rfl (Ex.eqI rfl rfl) ?_
      refine WL.ex rfl rfl rfl (Ex.asg rfl) ?_
      refine WL.nil ?_
      refine WX.next (?_)
      refine WC.cond_dec rfl (fun h106 => ?_) (fun h106 => ?_)
      · skip
        refine WC.seq ?_
        refine WC.region ?_
        refine WL.ex rfl rfl rfl (Ex.asg rfl) ?_
        refine WL.nil ?_
        refine WX.next (?_)
        refine WC.seq ?_
        refine WC.block ?_
        refine WC.seq ?_
        refine WC.region ?_
        refine WL.ex rfl rfl rfl (Ex.fa fl95_1 rfl) ?_
        refine WL.ex rfl rfl rfl (Ex.loadA ty50 rfl (itt_len (Ac9Ok.x (by first | assumption | exact ac90_ok))) (M12.rdt (i := 0) rfl (ac9_g1 (by first | assumption | exact ac90_ok)))) ?_
        refine WL.ac rfl rfl rfl (Ac.call rfl Tryd.func43 nm43 rfl (may7_ok w12 _ hao.x)) ?_; rintro v127 w127 ⟨rfl, K127⟩
        have M127 := M12.step K127
        by_cases hm : mayI a.x
        · rw [decide_eq_true hm]
          refine WL.ex rfl rfl rfl (Ex.not rfl) ?_
          refine WL.ex rfl rfl rfl (Ex.asg rfl) ?_
          refine WL.nil ?_
          refine WX.next (?_)
          refine WC.no rfl ?_
          refine WC.seq ?_
          refine WC.region ?_
          refine WL.ex rfl rfl rfl (Ex.fa fl95_1 rfl) ?_
          refine WL.ex rfl rfl rfl (Ex.fa fl50_0 rfl) ?_
          refine WL.ex rfl rfl rfl (Ex.load ty46 rfl (M127.cell (i := 0) rfl (nest_one (ac9_g1 (by first | assumption | exact ac90_ok)) (itt_g0 (Ac9Ok.x (by first | assumption | exact ac90_ok))) (by decide)))) ?_
          refine WL.ex rfl rfl rfl (Ex.cvI Tryd.underlying46 Tryd.underlying23 rfl (u64w_lt _ (by have := hao.x.ix; omega))) ?_
          refine WL.ex rfl rfl rfl (Ex.mv rfl) ?_
          refine WL.ex rfl rfl rfl (Ex.len Tryd.underlying27 rfl) ?_
          refine WL.ex rfl rfl rfl (Ex.cvI Tryd.underlying3 Tryd.underlying23 rfl (u64w_lt _ (by omega))) ?_
          refine WL.ex rfl rfl rfl (Ex.neI rfl rfl) ?_
          by_cases hix : ¬ (a.x.ix : Int) = (its.length : Int)
          · rw [decide_eq_false hix]
            obtain ⟨had, hal⟩ := ad_11 (its := its) hm (by omega)
            refine WL.ex rfl rfl rfl (Ex.asg rfl) ?_
            refine WL.nil ?_
            refine WX.next (?_)
            refine WC.yes rfl ?_
            refine WC.region ?_
            refine WL.ex rfl rfl rfl (Ex.asg rfl) ?_
            refine WL.nil ?_
            refine WX.normal_block (WX.next (?_))
            refine WC.seq ?_
            refine WC.seq ?_
            refine WC.region ?_
            refine WL.ex rfl rfl rfl (Ex.mv rfl) ?_
            refine WL.ex rfl rfl rfl (Ex.fa fl95_1 rfl) ?_
            refine WL.ex rfl rfl rfl (Ex.loadA ty50 rfl (itt_len (Ac9Ok.x (by first | assumption | exact ac90_ok))) (M127.rdt (i := 0) rfl (ac9_g1 (by first | assumption | exact ac90_ok)))) ?_
            refine WL.ac rfl rfl rfl (Ac.call rfl Tryd.func24 nm24 rfl (oAdd_ok w127 go gt gl ge vs1 A1 c1 its a.x (M127.get (i := 2) rfl) hao.x hok2 (by omega) (by have k := M127.keep; rw [hFF] at k; exact hT.keepF k hFT) (fun b hb => (M127.own _ (List.mem_of_getElem? (i := 2) rfl) b hb).elim (fun hle => hT.fresh hle) (fun f => hFT b (by rw [hFF] at f; exact f))))) ?_; rintro v143 w143 ⟨vs2, A2, c2, rfl, T143⟩
            rw [hal] at T143
            rw [had]
            have M143 := M127.turned (i := 2) rfl T143
            try dsimp only [List.set] at M143
            refine WL.ex rfl rfl rfl (Ex.mv rfl) ?_
            refine WL.ex rfl rfl rfl (Ex.neI rfl rfl) ?_
            rw [decide_eq_true rfl]
            refine WL.nil ?_
            refine WX.next (?_)
            refine WC.no rfl ?_
            refine WC.skip ?_
            refine WX.next (?_)
            refine WC.seq ?_
            refine WC.region ?_
            refine WL.ex rfl rfl rfl (Ex.mv rfl) ?_
            refine WL.ex rfl rfl rfl (Ex.eqI rfl rfl) ?_
            rw [show decide ((11 : Int) = 0) = false from rfl]
            refine WL.nil ?_
            refine WX.next (?_)
            refine WC.no rfl ?_
            refine WC.skip ?_
            refine WX.normal_block (WX.next (?_))
            refine WC.seq ?_
            refine WC.region ?_
            refine WL.ex rfl rfl rfl (Ex.mv rfl) ?_
            refine WL.ac rfl rfl rfl (Ac.call rfl Tryd.func25 nm25 rfl (oLen_ok w143 go gt gl ge vs2 A2 c2 its (OxS.of (M143.get (i := 2) rfl)) (by first | omega | (rw [hl3]; omega) | (rw [htl]; omega)))) ?_; rintro v149 w149 ⟨rfl, K149⟩
            have M149 := M143.step K149
            refine WL.ex rfl rfl rfl (Ex.mv rfl) ?_
            refine WL.ex rfl rfl rfl (Ex.len Tryd.underlying27 rfl) ?_
            refine WL.ex rfl rfl rfl (Ex.cvI Tryd.underlying3 Tryd.underlying23 rfl (u64w_lt _ (by first | omega | (rw [hl3]; omega)))) ?_
            refine WL.ex rfl rfl rfl (Ex.neI rfl rfl) ?_
            rw [decide_eq_true rfl]
            refine WL.nil ?_
            refine WX.next (?_)
            refine WC.no rfl ?_
            refine WC.skip ?_
            refine WX.normal_block (WX.next (?_))
            refine WC.region ?_
            refine WL.ex rfl rfl rfl (Ex.add rfl rfl (i64w _ (by omega) (by omega))) ?_
            refine WL.ex rfl rfl rfl (Ex.mv rfl) ?_
            refine WL.nil ?_
            refine WX.again (((i + 1, vs2, A2, c2, .slice Av its.length cv, its) : Nat × List Value × Option Addr × Nat × Value × List Itt)) ?_ ?_ (.cons rfl (.cons rfl (.cons rfl (.cons rfl (.cons rfl (.nil))))))
            · dsimp only; omega
            · first
                | exact ⟨by dsimp only; omega, by dsimp only; omega, hok2, (Mem.pick M149 [1, 2] (by decide) rfl)⟩
                | exact ⟨by dsimp only; omega, by dsimp only; rw [hl3]; omega, hok3, (Mem.pick M149 [1, 2] (by decide) rfl)⟩
                | exact ⟨by dsimp only; omega, by dsimp only; rw [htl]; omega, fun t ht => hok2 t (List.mem_of_mem_take ht), (Mem.pick M149 [1, 2] (by decide) rfl)⟩
          · rw [decide_eq_true (Decidable.not_not.1 hix)]
            obtain ⟨had, hal⟩ := ad_0 (its := its) hm (by omega)
            refine WL.ex rfl rfl rfl (Ex.asg rfl) ?_
            refine WL.nil ?_
            refine WX.next (?_)
            refine WC.no rfl ?_
            refine WC.skip ?_
            refine WX.normal_block (WX.next (?_))
            refine WC.seq ?_
            refine WC.seq ?_
            refine WC.region ?_
            refine WL.ex rfl rfl rfl (Ex.mv rfl) ?_
            refine WL.ex rfl rfl rfl (Ex.fa fl95_1 rfl) ?_
            refine WL.ex rfl rfl rfl (Ex.loadA ty50 rfl (itt_len (Ac9Ok.x (by first | assumption | exact ac90_ok))) (M127.rdt (i := 0) rfl (ac9_g1 (by first | assumption | exact ac90_ok)))) ?_
            refine WL.ac rfl rfl rfl (Ac.call rfl Tryd.func24 nm24 rfl (oAdd_ok w127 go gt gl ge vs1 A1 c1 its a.x (M127.get (i := 2) rfl) hao.x hok2 (by omega) (by have k := M127.keep; rw [hFF] at k; exact hT.keepF k hFT) (fun b hb => (M127.own _ (List.mem_of_getElem? (i := 2) rfl) b hb).elim (fun hle => hT.fresh hle) (fun f => hFT b (by rw [hFF] at f; exact f))))) ?_; rintro v160 w160 ⟨vs2, A2, c2, rfl, T160⟩
            rw [hal] at T160
            rw [had]
            have M160 := M127.turned (i := 2) rfl T160
            try dsimp only [List.set] at M160
            refine WL.ex rfl rfl rfl (Ex.mv rfl) ?_
            refine WL.ex rfl rfl rfl (Ex.neI rfl rfl) ?_
            rw [decide_eq_true rfl]
            refine WL.nil ?_
            refine WX.next (?_)
            refine WC.no rfl ?_
            refine WC.skip ?_
            refine WX.next (?_)
            refine WC.seq ?_
            refine WC.region ?_
            refine WL.ex rfl rfl rfl (Ex.mv rfl) ?_
            refine WL.ex rfl rfl rfl (Ex.eqI rfl rfl) ?_
            rw [show decide ((0 : Int) = 0) = true from rfl]
            refine WL.nil ?_
            refine WX.next (?_)
            refine WC.yes rfl ?_
            have D165 := Keep.drew nof w160
            have M165 := M160.step D165
            refine WC.draw (Keep (FP M165 [1]) w160.drew) [] (.one 1 0 (.one 3 0 (.one 4 1 (.two 0 (.two 2 (.one 5 2 (.one 6 2 (.one 7 0 .nil))) 5 (.one 2 2 (.one 6 2 (.one 7 0 .nil)))) 5 (.one 0 2 (.one 2 2 (.one 6 2 (.one 7 0 .nil)))))))) mixed (by kernel_rfl) (by kernel_rfl) (by kernel_rfl) (HQ.block (HQ.then_ (HQ.block (HQ.then_ (HQ.then_ (HQ.block (HQ.then_ HQ.body))))))) ?_
            revert D165 M165; generalize w160.drew = w165; intro D165 M165
            have B165 : Mem w165 w165 (FP M165 [1]) [_] := M165.base [1] (by decide)
            refine WP.p rfl rfl rfl rfl (fun _ => Ex.mv rfl) ?_
            refine WP.p rfl rfl rfl rfl (fun _ => Ex.fa fl95_1 rfl) ?_
            refine WP.q B165.keep rfl rfl rfl rfl (fun w' hS => Ex.loadA ty50 rfl (l := ittC a.x) (itt_len hao.x) (M165.fp_rdt (j := 0) hS rfl (ac9_g1 hao) rfl)) ?_
            refine WP.two ?_ ?_
            · skip
              refine WP.a rfl rfl rfl rfl (Ac.bs0 M165 Tryd.underlying27 sz50) ?_; rintro v169 w169 ⟨gn, rfl, hg169, K169, M169⟩
              have B169 := B165.grow (r := row (.slice (some ⟨gn, 0, none⟩) 0 0) 50 7 0 []) K169 (M169.get (i := 0) rfl) (by intro b hb; simp [row, Value.ownBlock] at hb; omega)
              refine .inr ⟨fun _ => B169.keep, ?_⟩
              refine WP.two ?_ ?_
              · skip
                refine WP.a rfl rfl rfl rfl (Ac.appT el27 (M169.get (i := 0) rfl) rfl rfl (its_len hok2) (M169.rdr (i := 2) rfl) (its_one _) (by omega) (by unfold maxLen; omega)) ?_; rintro v170 w170 T170
                rw [Nat.zero_add, List.nil_append] at T170
                have B170 := B169.turned (i := 0) rfl T170
                refine .inr ⟨fun _ => B170.keep, ?_⟩
                have M170 := M169.turned (i := 0) rfl T170
                try dsimp only [List.set] at M170
                refine WP.a rfl rfl rfl rfl (Ac.bs M170 (parts := [(0, .tmp 135)]) rfl rfl (LitS.agg1 el27 rfl (itt_len hao.x) (by decide))) ?_; rintro v171 w171 ⟨g1_, rfl, hg171, K171, M171⟩
                have B171 := B170.step K171
                refine .inr ⟨fun _ => B171.keep, ?_⟩
                refine WP.a rfl rfl rfl rfl (Ac.appT el27 (M171.get (i := 1) rfl) rfl rfl (by rw [itt_len hao.x]) (M171.rdw (i := 0) rfl) itt_one (by omega) (by unfold maxLen; omega)) ?_; rintro v172 w172 T172
                have B172 := B171.turned (i := 0) rfl T172
                refine .inr ⟨fun _ => B172.keep, ?_⟩
                rw [show its.flatMap ittC ++ ittC a.x = (its ++ [a.x]).flatMap ittC by simp, show its.length + 1 = (its ++ [a.x]).length by simp] at T172
                have M172 := M171.turned (i := 1) rfl T172
                try dsimp only [List.set] at M172
                obtain ⟨An, cn, rfl⟩ := own_slice (M172.get (i := 1) rfl)
                have hok3 : ∀ t ∈ its ++ [a.x], IttOk t := fun t ht => (List.mem_append.1 ht).elim (hok2 t) (fun h => by obtain rfl : t = a.x := (by simpa using h); exact hao.x)
                have hl3 : (its ++ [a.x]).length = its.length + 1 := by simp
                refine WP.p rfl rfl rfl rfl (fun _ => Ex.asg rfl) ?_
                refine WP.nil ?_
                refine WX.normal_block (WX.next (?_))
                refine WC.seq ?_
                refine WC.region ?_
                refine WL.ex rfl rfl rfl (Ex.mv rfl) ?_
                refine WL.ac rfl rfl rfl (Ac.call rfl Tryd.func25 nm25 rfl (oLen_ok w172 go gt gl ge vs2 A2 c2 (its ++ [a.x]) (OxS.of (M172.get (i := 4) rfl)) (by first | omega | (rw [hl3]; omega) | (rw [htl]; omega)))) ?_; rintro v175 w175 ⟨rfl, K175⟩
                have M175 := M172.step K175
                refine WL.ex rfl rfl rfl (Ex.mv rfl) ?_
                refine WL.ex rfl rfl rfl (Ex.len Tryd.underlying27 rfl) ?_
                refine WL.ex rfl rfl rfl (Ex.cvI Tryd.underlying3 Tryd.underlying23 rfl (u64w_lt _ (by first | omega | (rw [hl3]; omega)))) ?_
                refine WL.ex rfl rfl rfl (Ex.neI rfl rfl) ?_
                rw [decide_eq_true rfl]
                refine WL.nil ?_
                refine WX.next (?_)
                refine WC.no rfl ?_
                refine WC.skip ?_
                refine WX.normal_block (WX.next (?_))
                refine WC.region ?_
                refine WL.ex rfl rfl rfl (Ex.add rfl rfl (i64w _ (by omega) (by omega))) ?_
                refine WL.ex rfl rfl rfl (Ex.mv rfl) ?_
                refine WL.nil ?_
                refine WX.again (((i + 1, vs2, A2, c2, .slice An (its ++ [a.x]).length cn, its ++ [a.x]) : Nat × List Value × Option Addr × Nat × Value × List Itt)) ?_ ?_ (.cons rfl (.cons rfl (.cons rfl (.cons rfl (.cons rfl (.nil))))))
                · dsimp only; omega
                · first
                    | exact ⟨by dsimp only; omega, by dsimp only; omega, hok2, (Mem.pick M175 [1, 4] (by decide) rfl)⟩
                    | exact ⟨by dsimp only; omega, by dsimp only; rw [hl3]; omega, hok3, (Mem.pick M175 [1, 4] (by decide) rfl)⟩
                    | exact ⟨by dsimp only; omega, by dsimp only; rw [htl]; omega, fun t ht => hok2 t (List.mem_of_mem_take ht), (Mem.pick M175 [1, 4] (by decide) rfl)⟩
              · skip
                refine WP.a rfl rfl rfl rfl (Ac.bs M169 (parts := [(0, .tmp 135)]) rfl rfl (LitS.agg1 el27 rfl (itt_len hao.x) (by decide))) ?_; rintro v182 w182 ⟨g1_, rfl, hg182, K182, M182⟩
                have B182 := B169.step K182
                refine .inr ⟨fun _ => B182.keep, ?_⟩
                refine WP.a rfl rfl rfl rfl (Ac.appT el27 (M182.get (i := 1) rfl) rfl rfl (its_len hok2) (M182.rdr (i := 3) rfl) (its_one _) (by omega) (by unfold maxLen; omega)) ?_; rintro v183 w183 T183
                rw [Nat.zero_add, List.nil_append] at T183
                have B183 := B182.turned (i := 0) rfl T183
                refine .inr ⟨fun _ => B183.keep, ?_⟩
                have M183 := M182.turned (i := 1) rfl T183
                try dsimp only [List.set] at M183
                refine WP.a rfl rfl rfl rfl (Ac.appT el27 (M183.get (i := 1) rfl) rfl rfl (by rw [itt_len hao.x]) (M183.rdw (i := 0) rfl) itt_one (by omega) (by unfold maxLen; omega)) ?_; rintro v184 w184 T184
                have B184 := B183.turned (i := 0) rfl T184
                refine .inr ⟨fun _ => B184.keep, ?_⟩
                rw [show its.flatMap ittC ++ ittC a.x = (its ++ [a.x]).flatMap ittC by simp, show its.length + 1 = (its ++ [a.x]).length by simp] at T184
                have M184 := M183.turned (i := 1) rfl T184
                try dsimp only [List.set] at M184
                obtain ⟨An, cn, rfl⟩ := own_slice (M184.get (i := 1) rfl)
                have hok3 : ∀ t ∈ its ++ [a.x], IttOk t := fun t ht => (List.mem_append.1 ht).elim (hok2 t) (fun h => by obtain rfl : t = a.x := (by simpa using h); exact hao.x)
                have hl3 : (its ++ [a.x]).length = its.length + 1 := by simp
                refine WP.p rfl rfl rfl rfl (fun _ => Ex.asg rfl) ?_
                refine WP.nil ?_
                refine WX.normal_block (WX.next (?_))
                refine WC.seq ?_
                refine WC.region ?_
                refine WL.ex rfl rfl rfl (Ex.mv rfl) ?_
                refine WL.ac rfl rfl rfl (Ac.call rfl Tryd.func25 nm25 rfl (oLen_ok w184 go gt gl ge vs2 A2 c2 (its ++ [a.x]) (OxS.of (M184.get (i := 4) rfl)) (by first | omega | (rw [hl3]; omega) | (rw [htl]; omega)))) ?_; rintro v187 w187 ⟨rfl, K187⟩
                have M187 := M184.step K187
                refine WL.ex rfl rfl rfl (Ex.mv rfl) ?_
                refine WL.ex rfl rfl rfl (Ex.len Tryd.underlying27 rfl) ?_
                refine WL.ex rfl rfl rfl (Ex.cvI Tryd.underlying3 Tryd.underlying23 rfl (u64w_lt _ (by first | omega | (rw [hl3]; omega)))) ?_
                refine WL.ex rfl rfl rfl (Ex.neI rfl rfl) ?_
                rw [decide_eq_true rfl]
                refine WL.nil ?_
                refine WX.next (?_)
                refine WC.no rfl ?_
                refine WC.skip ?_
                refine WX.normal_block (WX.next (?_))
                refine WC.region ?_
                refine WL.ex rfl rfl rfl (Ex.add rfl rfl (i64w _ (by omega) (by omega))) ?_
                refine WL.ex rfl rfl rfl (Ex.mv rfl) ?_
                refine WL.nil ?_
                refine WX.again (((i + 1, vs2, A2, c2, .slice An (its ++ [a.x]).length cn, its ++ [a.x]) : Nat × List Value × Option Addr × Nat × Value × List Itt)) ?_ ?_ (.cons rfl (.cons rfl (.cons rfl (.cons rfl (.cons rfl (.nil))))))
                · dsimp only; omega
                · first
                    | exact ⟨by dsimp only; omega, by dsimp only; omega, hok2, (Mem.pick M187 [1, 4] (by decide) rfl)⟩
                    | exact ⟨by dsimp only; omega, by dsimp only; rw [hl3]; omega, hok3, (Mem.pick M187 [1, 4] (by decide) rfl)⟩
                    | exact ⟨by dsimp only; omega, by dsimp only; rw [htl]; omega, fun t ht => hok2 t (List.mem_of_mem_take ht), (Mem.pick M187 [1, 4] (by decide) rfl)⟩
            · skip
              refine WP.a rfl rfl rfl rfl (Ac.bs M165 (parts := [(0, .tmp 135)]) rfl rfl (LitS.agg1 el27 rfl (itt_len hao.x) (by decide))) ?_; rintro v194 w194 ⟨g1_, rfl, hg194, K194, M194⟩
              have B194 := B165.step K194
              refine .inr ⟨fun _ => B194.keep, ?_⟩
              refine WP.a rfl rfl rfl rfl (Ac.bs0 M194 Tryd.underlying27 sz50) ?_; rintro v195 w195 ⟨gn, rfl, hg195, K195, M195⟩
              have B195 := B194.grow (r := row (.slice (some ⟨gn, 0, none⟩) 0 0) 50 7 0 []) K195 (M195.get (i := 0) rfl) (by intro b hb; simp [row, Value.ownBlock] at hb; omega)
              refine .inr ⟨fun _ => B195.keep, ?_⟩
              refine WP.a rfl rfl rfl rfl (Ac.appT el27 (M195.get (i := 0) rfl) rfl rfl (its_len hok2) (M195.rdr (i := 3) rfl) (its_one _) (by omega) (by unfold maxLen; omega)) ?_; rintro v196 w196 T196
              rw [Nat.zero_add, List.nil_append] at T196
              have B196 := B195.turned (i := 0) rfl T196
              refine .inr ⟨fun _ => B196.keep, ?_⟩
              have M196 := M195.turned (i := 0) rfl T196
              try dsimp only [List.set] at M196
              refine WP.a rfl rfl rfl rfl (Ac.appT el27 (M196.get (i := 0) rfl) rfl rfl (by rw [itt_len hao.x]) (M196.rdw (i := 1) rfl) itt_one (by omega) (by unfold maxLen; omega)) ?_; rintro v197 w197 T197
              have B197 := B196.turned (i := 0) rfl T197
              refine .inr ⟨fun _ => B197.keep, ?_⟩
              rw [show its.flatMap ittC ++ ittC a.x = (its ++ [a.x]).flatMap ittC by simp, show its.length + 1 = (its ++ [a.x]).length by simp] at T197
              have M197 := M196.turned (i := 0) rfl T197
              try dsimp only [List.set] at M197
              obtain ⟨An, cn, rfl⟩ := own_slice (M197.get (i := 0) rfl)
              have hok3 : ∀ t ∈ its ++ [a.x], IttOk t := fun t ht => (List.mem_append.1 ht).elim (hok2 t) (fun h => by obtain rfl : t = a.x := (by simpa using h); exact hao.x)
              have hl3 : (its ++ [a.x]).length = its.length + 1 := by simp
              refine WP.p rfl rfl rfl rfl (fun _ => Ex.asg rfl) ?_
              refine WP.nil ?_
              refine WX.normal_block (WX.next (?_))
              refine WC.seq ?_
              refine WC.region ?_
              refine WL.ex rfl rfl rfl (Ex.mv rfl) ?_
              refine WL.ac rfl rfl rfl (Ac.call rfl Tryd.func25 nm25 rfl (oLen_ok w197 go gt gl ge vs2 A2 c2 (its ++ [a.x]) (OxS.of (M197.get (i := 4) rfl)) (by first | omega | (rw [hl3]; omega) | (rw [htl]; omega)))) ?_; rintro v200 w200 ⟨rfl, K200⟩
              have M200 := M197.step K200
              refine WL.ex rfl rfl rfl (Ex.mv rfl) ?_
              refine WL.ex rfl rfl rfl (Ex.len Tryd.underlying27 rfl) ?_
              refine WL.ex rfl rfl rfl (Ex.cvI Tryd.underlying3 Tryd.underlying23 rfl (u64w_lt _ (by first | omega | (rw [hl3]; omega)))) ?_
              refine WL.ex rfl rfl rfl (Ex.neI rfl rfl) ?_
              rw [decide_eq_true rfl]
              refine WL.nil ?_
              refine WX.next (?_)
              refine WC.no rfl ?_
              refine WC.skip ?_
              refine WX.normal_block (WX.next (?_))
              refine WC.region ?_
              refine WL.ex rfl rfl rfl (Ex.add rfl rfl (i64w _ (by omega) (by omega))) ?_
              refine WL.ex rfl rfl rfl (Ex.mv rfl) ?_
              refine WL.nil ?_
              refine WX.again (((i + 1, vs2, A2, c2, .slice An (its ++ [a.x]).length cn, its ++ [a.x]) : Nat × List Value × Option Addr × Nat × Value × List Itt)) ?_ ?_ (.cons rfl (.cons rfl (.cons rfl (.cons rfl (.cons rfl (.nil))))))
              · dsimp only; omega
              · first
                  | exact ⟨by dsimp only; omega, by dsimp only; omega, hok2, (Mem.pick M200 [0, 4] (by decide) rfl)⟩
                  | exact ⟨by dsimp only; omega, by dsimp only; rw [hl3]; omega, hok3, (Mem.pick M200 [0, 4] (by decide) rfl)⟩
                  | exact ⟨by dsimp only; omega, by dsimp only; rw [htl]; omega, fun t ht => hok2 t (List.mem_of_mem_take ht), (Mem.pick M200 [0, 4] (by decide) rfl)⟩
        · rw [decide_eq_false hm]
          obtain ⟨had, hal⟩ := ad_6 (its := its) hm
          refine WL.ex rfl rfl rfl (Ex.not rfl) ?_
          refine WL.ex rfl rfl rfl (Ex.asg rfl) ?_
          refine WL.nil ?_
          refine WX.next (?_)
          refine WC.yes rfl ?_
          refine WC.region ?_
          refine WL.ex rfl rfl rfl (Ex.asg rfl) ?_
          refine WL.nil ?_
          refine WX.normal_block (WX.next (?_))
          refine WC.seq ?_
          refine WC.seq ?_
          refine WC.region ?_
          refine WL.ex rfl rfl rfl (Ex.mv rfl) ?_
          refine WL.ex rfl rfl rfl (Ex.fa fl95_1 rfl) ?_
          refine WL.ex rfl rfl rfl (Ex.loadA ty50 rfl (itt_len (Ac9Ok.x (by first | assumption | exact ac90_ok))) (M127.rdt (i := 0) rfl (ac9_g1 (by first | assumption | exact ac90_ok)))) ?_
          refine WL.ac rfl rfl rfl (Ac.call rfl Tryd.func24 nm24 rfl (oAdd_ok w127 go gt gl ge vs1 A1 c1 its a.x (M127.get (i := 2) rfl) hao.x hok2 (by omega) (by have k := M127.keep; rw [hFF] at k; exact hT.keepF k hFT) (fun b hb => (M127.own _ (List.mem_of_getElem? (i := 2) rfl) b hb).elim (fun hle => hT.fresh hle) (fun f => hFT b (by rw [hFF] at f; exact f))))) ?_; rintro v213 w213 ⟨vs2, A2, c2, rfl, T213⟩
          rw [hal] at T213
          rw [had]
          have M213 := M127.turned (i := 2) rfl T213
          try dsimp only [List.set] at M213
          refine WL.ex rfl rfl rfl (Ex.mv rfl) ?_
          refine WL.ex rfl rfl rfl (Ex.neI rfl rfl) ?_
          rw [decide_eq_true rfl]
          refine WL.nil ?_
          refine WX.next (?_)
          refine WC.no rfl ?_
          refine WC.skip ?_
          refine WX.next (?_)
          refine WC.seq ?_
          refine WC.region ?_
          refine WL.ex rfl rfl rfl (Ex.mv rfl) ?_
          refine WL.ex rfl rfl rfl (Ex.eqI rfl rfl) ?_
          rw [show decide ((6 : Int) = 0) = false from rfl]
          refine WL.nil ?_
          refine WX.next (?_)
          refine WC.no rfl ?_
          refine WC.skip ?_
          refine WX.normal_block (WX.next (?_))
          refine WC.seq ?_
          refine WC.region ?_
          refine WL.ex rfl rfl rfl (Ex.mv rfl) ?_
          refine WL.ac rfl rfl rfl (Ac.call rfl Tryd.func25 nm25 rfl (oLen_ok w213 go gt gl ge vs2 A2 c2 its (OxS.of (M213.get (i := 2) rfl)) (by first | omega | (rw [hl3]; omega) | (rw [htl]; omega)))) ?_; rintro v219 w219 ⟨rfl, K219⟩
          have M219 := M213.step K219
          refine WL.ex rfl rfl rfl (Ex.mv rfl) ?_
          refine WL.ex rfl rfl rfl (Ex.len Tryd.underlying27 rfl) ?_
          refine WL.ex rfl rfl rfl (Ex.cvI Tryd.underlying3 Tryd.underlying23 rfl (u64w_lt _ (by first | omega | (rw [hl3]; omega)))) ?_
          refine WL.ex rfl rfl rfl (Ex.neI rfl rfl) ?_
          rw [decide_eq_true rfl]
          refine WL.nil ?_
          refine WX.next (?_)
          refine WC.no rfl ?_
          refine WC.skip ?_
          refine WX.normal_block (WX.next (?_))
          refine WC.region ?_
          refine WL.ex rfl rfl rfl (Ex.add rfl rfl (i64w _ (by omega) (by omega))) ?_
          refine WL.ex rfl rfl rfl (Ex.mv rfl) ?_
          refine WL.nil ?_
          refine WX.again (((i + 1, vs2, A2, c2, .slice Av its.length cv, its) : Nat × List Value × Option Addr × Nat × Value × List Itt)) ?_ ?_ (.cons rfl (.cons rfl (.cons rfl (.cons rfl (.cons rfl (.nil))))))
          · dsimp only; omega
          · first
              | exact ⟨by dsimp only; omega, by dsimp only; omega, hok2, (Mem.pick M219 [1, 2] (by decide) rfl)⟩
              | exact ⟨by dsimp only; omega, by dsimp only; rw [hl3]; omega, hok3, (Mem.pick M219 [1, 2] (by decide) rfl)⟩
              | exact ⟨by dsimp only; omega, by dsimp only; rw [htl]; omega, fun t ht => hok2 t (List.mem_of_mem_take ht), (Mem.pick M219 [1, 2] (by decide) rfl)⟩
      · skip
        refine WC.seq ?_
        refine WC.region ?_
        refine WL.ex rfl rfl rfl (Ex.fa fl95_2 rfl) ?_
        refine WL.ex rfl rfl rfl (Ex.load ty23 rfl (M12.cell (i := 0) rfl (ac9_g8 (by first | assumption | exact ac90_ok)))) ?_
        refine WL.ex rfl rfl rfl (Ex.mv rfl) ?_
        refine WL.ex rfl rfl rfl (Ex.len Tryd.underlying27 rfl) ?_
        refine WL.ex rfl rfl rfl (Ex.cvI Tryd.underlying3 Tryd.underlying23 rfl (u64w_lt _ (by omega))) ?_
        refine WL.ex rfl rfl rfl (Ex.leq rfl rfl) ?_
        by_cases hcut : (a.n : Int) ≤ (its.length : Int)
        · rw [decide_eq_true hcut]
          refine WL.ex rfl rfl rfl (Ex.asg rfl) ?_
          refine WL.nil ?_
          refine WX.next (?_)
          refine WC.seq ?_
          refine WC.seq ?_
          refine WC.region ?_
          refine WL.ex rfl rfl rfl (Ex.mv rfl) ?_
          refine WL.ex rfl rfl rfl (Ex.fa fl95_2 rfl) ?_
          refine WL.ex rfl rfl rfl (Ex.load ty23 rfl (M12.cell (i := 0) rfl (ac9_g8 (by first | assumption | exact ac90_ok)))) ?_
          refine WL.ac rfl rfl rfl (Ac.call rfl Tryd.func28 nm28 rfl (oCut_ok w12 go gt gl ge vs1 A1 c1 its a.n (M12.get (i := 2) rfl) hok2 (by omega) hao.n)) ?_; rintro v236 w236 ⟨vs2, A2, c2, rfl, T236⟩
          rw [decide_eq_true (show a.n ≤ its.length by omega)]
          have M236 := M12.turned (i := 2) rfl T236
          try dsimp only [List.set] at M236
          refine WL.ex rfl rfl rfl (Ex.mv rfl) ?_
          refine WL.ex rfl rfl rfl (Ex.neB Tryd.underlying4 rfl rfl) ?_
          refine WL.nil ?_
          refine WX.next (?_)
          refine WC.no rfl ?_
          refine WC.skip ?_
          refine WX.next (?_)
          refine WC.seq ?_
          refine WC.region ?_
          refine WL.ex rfl rfl rfl (Ex.mv rfl) ?_
          refine WL.nil ?_
          refine WX.next (?_)
          refine WC.yes rfl ?_
          refine WC.region ?_
          refine WL.ex rfl rfl rfl (Ex.mv rfl) ?_
          refine WL.ex rfl rfl rfl (Ex.fa fl95_2 rfl) ?_
          refine WL.ex rfl rfl rfl (Ex.load ty23 rfl (M236.cell (i := 0) rfl (ac9_g8 (by first | assumption | exact ac90_ok)))) ?_
          refine WL.ex rfl rfl rfl (Ex.slh Tryd.underlying27 sz50 rfl rfl (Int.natCast_nonneg _) (by have := own_cap (M236.get (i := 1) rfl); omega)) ?_
          rw [Int.toNat_natCast]
          have htl : (its.take a.n).length = a.n := by rw [List.length_take]; omega
          replace M236 := M236.cutR (i := 1) rfl (show a.n ≤ its.length by omega)
          try dsimp only [List.set] at M236
          rw [← its_take hok2] at M236
          replace M236 := M236.eqv (i := 1) rfl (r' := row (.slice Av a.n cv) 50 7 (its.take a.n).length ((its.take a.n).flatMap ittC)) (by rw [htl])
          try dsimp only [List.set] at M236
          refine WL.ex rfl rfl rfl (Ex.asg rfl) ?_
          refine WL.nil ?_
          refine WX.normal_block (WX.next (?_))
          refine WC.seq ?_
          refine WC.region ?_
          refine WL.ex rfl rfl rfl (Ex.mv rfl) ?_
          refine WL.ac rfl rfl rfl (Ac.call rfl Tryd.func25 nm25 rfl (oLen_ok w236 go gt gl ge vs2 A2 c2 (its.take a.n) (OxS.of (M236.get (i := 2) rfl)) (by first | omega | (rw [hl3]; omega) | (rw [htl]; omega)))) ?_; rintro v246 w246 ⟨rfl, K246⟩
          have M246 := M236.step K246
          refine WL.ex rfl rfl rfl (Ex.mv rfl) ?_
          refine WL.ex rfl rfl rfl (Ex.len Tryd.underlying27 rfl) ?_
          refine WL.ex rfl rfl rfl (Ex.cvI Tryd.underlying3 Tryd.underlying23 rfl (u64w_lt _ (by first | omega | (rw [hl3]; omega)))) ?_
          refine WL.ex rfl rfl rfl (Ex.neI rfl rfl) ?_
          rw [htl]
          rw [decide_eq_true rfl]
          refine WL.nil ?_
          refine WX.next (?_)
          refine WC.no rfl ?_
          refine WC.skip ?_
          refine WX.normal_block (WX.next (?_))
          refine WC.region ?_
          refine WL.ex rfl rfl rfl (Ex.add rfl rfl (i64w _ (by omega) (by omega))) ?_
          refine WL.ex rfl rfl rfl (Ex.mv rfl) ?_
          refine WL.nil ?_
          refine WX.again (((i + 1, vs2, A2, c2, .slice Av a.n cv, its.take a.n) : Nat × List Value × Option Addr × Nat × Value × List Itt)) ?_ ?_ (.cons rfl (.cons rfl (.cons rfl (.cons rfl (.cons rfl (.nil))))))
          · dsimp only; omega
          · first
              | exact ⟨by dsimp only; omega, by dsimp only; omega, hok2, (Mem.pick M246 [1, 2] (by decide) rfl)⟩
              | exact ⟨by dsimp only; omega, by dsimp only; rw [hl3]; omega, hok3, (Mem.pick M246 [1, 2] (by decide) rfl)⟩
              | exact ⟨by dsimp only; omega, by dsimp only; rw [htl]; omega, fun t ht => hok2 t (List.mem_of_mem_take ht), (Mem.pick M246 [1, 2] (by decide) rfl)⟩
        · rw [decide_eq_false hcut]
          refine WL.ex rfl rfl rfl (Ex.asg rfl) ?_
          refine WL.nil ?_
          refine WX.next (?_)
          refine WC.seq ?_
          refine WC.seq ?_
          refine WC.region ?_
          refine WL.ex rfl rfl rfl (Ex.mv rfl) ?_
          refine WL.ex rfl rfl rfl (Ex.fa fl95_2 rfl) ?_
          refine WL.ex rfl rfl rfl (Ex.load ty23 rfl (M12.cell (i := 0) rfl (ac9_g8 (by first | assumption | exact ac90_ok)))) ?_
          refine WL.ac rfl rfl rfl (Ac.call rfl Tryd.func28 nm28 rfl (oCut_ok w12 go gt gl ge vs1 A1 c1 its a.n (M12.get (i := 2) rfl) hok2 (by omega) hao.n)) ?_; rintro v257 w257 ⟨vs2, A2, c2, rfl, T257⟩
          rw [decide_eq_false (show ¬ a.n ≤ its.length by omega)]
          rw [List.take_of_length_le (show its.length ≤ a.n by omega)] at T257
          have M257 := M12.turned (i := 2) rfl T257
          try dsimp only [List.set] at M257
          refine WL.ex rfl rfl rfl (Ex.mv rfl) ?_
          refine WL.ex rfl rfl rfl (Ex.neB Tryd.underlying4 rfl rfl) ?_
          refine WL.nil ?_
          refine WX.next (?_)
          refine WC.no rfl ?_
          refine WC.skip ?_
          refine WX.next (?_)
          refine WC.seq ?_
          refine WC.region ?_
          refine WL.ex rfl rfl rfl (Ex.mv rfl) ?_
          refine WL.nil ?_
          refine WX.next (?_)
          refine WC.no rfl ?_
          refine WC.skip ?_
          refine WX.normal_block (WX.next (?_))
          refine WC.seq ?_
          refine WC.region ?_
          refine WL.ex rfl rfl rfl (Ex.mv rfl) ?_
          refine WL.ac rfl rfl rfl (Ac.call rfl Tryd.func25 nm25 rfl (oLen_ok w257 go gt gl ge vs2 A2 c2 its (OxS.of (M257.get (i := 2) rfl)) (by first | omega | (rw [hl3]; omega) | (rw [htl]; omega)))) ?_; rintro v262 w262 ⟨rfl, K262⟩
          have M262 := M257.step K262
          refine WL.ex rfl rfl rfl (Ex.mv rfl) ?_
          refine WL.ex rfl rfl rfl (Ex.len Tryd.underlying27 rfl) ?_
          refine WL.ex rfl rfl rfl (Ex.cvI Tryd.underlying3 Tryd.underlying23 rfl (u64w_lt _ (by first | omega | (rw [hl3]; omega)))) ?_
          refine WL.ex rfl rfl rfl (Ex.neI rfl rfl) ?_
          rw [decide_eq_true rfl]
          refine WL.nil ?_
          refine WX.next (?_)
          refine WC.no rfl ?_
          refine WC.skip ?_
          refine WX.normal_block (WX.next (?_))
          refine WC.region ?_
          refine WL.ex rfl rfl rfl (Ex.add rfl rfl (i64w _ (by omega) (by omega))) ?_
          refine WL.ex rfl rfl rfl (Ex.mv rfl) ?_
          refine WL.nil ?_
          refine WX.again (((i + 1, vs2, A2, c2, .slice Av its.length cv, its) : Nat × List Value × Option Addr × Nat × Value × List Itt)) ?_ ?_ (.cons rfl (.cons rfl (.cons rfl (.cons rfl (.cons rfl (.nil))))))
          · dsimp only; omega
          · first
              | exact ⟨by dsimp only; omega, by dsimp only; omega, hok2, (Mem.pick M262 [1, 2] (by decide) rfl)⟩
              | exact ⟨by dsimp only; omega, by dsimp only; rw [hl3]; omega, hok3, (Mem.pick M262 [1, 2] (by decide) rfl)⟩
              | exact ⟨by dsimp only; omega, by dsimp only; rw [htl]; omega, fun t ht => hok2 t (List.mem_of_mem_take ht), (Mem.pick M262 [1, 2] (by decide) rfl)⟩
  · obtain ⟨Av, cv, rfl⟩ := own_slice (M7.get (i := 0) rfl)
    refine WC.exit ?_
    refine WX.exit_then (WX.exit_then (WX.exit_block (WX.next (?_))))
    refine WC.seq ?_
    refine WC.region ?_
    refine WL.ex rfl rfl rfl (Ex.mv rfl) ?_
    refine WL.ex rfl rfl rfl (Ex.asg rfl) ?_
    refine WL.ex rfl rfl rfl (Ex.asg rfl) ?_
    refine WL.nil ?_
    refine WX.next (?_)
    refine WC.ret ?_
    refine WX.ret2 rfl rfl rfl ?_
    have Mf : Mem w w7 FF [oR go gt gl ge vs1 A1 c1 its, row (.slice Av its.length cv) 50 7 (its).length ((its).flatMap ittC)] := (Mem.pick M7 [1, 0] (by decide) rfl)
    subst hFF
    exact ⟨_, _, _, _, _, _, rfl, hok2, by omega, own_cap (M7.get (i := 0) rfl), (Mem.closeS Mf).toTurn⟩

end Go.Proofs.YtchmjpdkonfifaaDoor
