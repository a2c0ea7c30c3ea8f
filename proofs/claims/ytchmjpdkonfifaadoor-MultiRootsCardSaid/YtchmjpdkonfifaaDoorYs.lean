/- Walks, written by gen.py off the translation's own print: each says what the Go function comes to. -/
import Derived.Test.YtchmjpdkonfifaaDoorYq
import Derived.Test.YtchmjpdkonfifaaDoorYp
import Derived.Test.YtchmjpdkonfifaaDoorYr
import Derived.Test.YtchmjpdkonfifaaDoorAl
set_option linter.unusedVariables false
set_option linter.unusedSimpArgs false
namespace Go.Proofs.YtchmjpdkonfifaaDoor
open Go.Sx Go.RowKit
attribute [local irreducible] Ac Ex WL WC WX WP Gives sha

theorem capL {w : World} {A : Option Addr} {c n sz : Nat} {e : TypeId} {xs : List Value} (h : (row (.slice A n c) e sz n xs).sat w) : n ≤ c := by
  rcases h.2 with ⟨hv, h0⟩ | ⟨g, cap, cur, hv, hb, hg, hnc, hcm, hsz, hcur⟩
  · omega
  · simp only [Value.slice.injEq] at hv
    omega
theorem u8inc (b : UInt8) : IntKind.u8.wrap ((b.toNat : Int) + 1) = (((b + 1 : UInt8)).toNat : Int) := by
  rw [IntKind.wrap_u8, UInt8.toNat_add]
  simp
theorem u8ne (b : UInt8) : b ≠ b + 1 := by
  intro h
  have h1 := congrArg UInt8.toNat h
  rw [UInt8.toNat_add] at h1
  have h2 := b.toNat_lt
  simp at h1
  omega
theorem check_e {d : Int} {xs : List Nat} {ns ls : Hs} {n : Nat} (rt : List UInt8) (h : (rootF d xs ns ls).2 ≠ 0) : checkF d xs ns ls rt n = (rootF d xs ns ls).2 := if_pos h
theorem check_10 {d : Int} {xs : List Nat} {ns ls : Hs} {n : Nat} (rt : List UInt8) (h : (rootF d xs ns ls).2 = 0) (h2 : n ≤ mxp xs xs.length) : checkF d xs ns ls rt n = 10 := by rw [checkF, if_neg (not_not_intro h), if_pos h2]
theorem check_14 {d : Int} {xs : List Nat} {ns ls : Hs} {n : Nat} {rt : List UInt8} (h : (rootF d xs ns ls).2 = 0) (h2 : ¬ n ≤ mxp xs xs.length) (h3 : (rootF d xs ns ls).1 ≠ rt) : checkF d xs ns ls rt n = 14 := by rw [checkF, if_neg (not_not_intro h), if_neg h2, if_pos h3]
theorem check_0 {d : Int} {xs : List Nat} {ns ls : Hs} {n : Nat} {rt : List UInt8} (h : (rootF d xs ns ls).2 = 0) (h2 : ¬ n ≤ mxp xs xs.length) (h3 : (rootF d xs ns ls).1 = rt) : checkF d xs ns ls rt n = 0 := by rw [checkF, if_neg (not_not_intro h), if_neg h2, if_neg (not_not_intro h3)]

/- sponsion/sponsionlaw33.MultiRoots -/
theorem multiRoots_walk (w : World) (d : Int) (A : Option Addr) (c : Nat) (xs : List Nat) (B : Option Addr) (cb : Nat) (ns : Hs) (C : Option Addr) (cl : Nat) (ls : Hs) (n : Nat) (hr : Rd w A (u64V xs)) (hxs : ∀ v ∈ xs, v < 18446744073709551616) (hrn : Rd w B (fl ns)) (hns : ∀ a ∈ ns, H32 a) (hcb : ns.length ≤ cb) (hrl : Rd w C (fl ls)) (hls : ∀ a ∈ ls, H32 a) (hT : Tabs w) (hR : TabR w) :
    Gives Tryd.prog 8 #[.int .i64 d, .slice A xs.length c, .slice B (List.length ns) cb, .slice C (List.length ls) cl, .int .u64 (n : Int)] w fun u w1 => u = .bool true ∧ Keep nof w w1 := by
  have M0 := Mem.start w nof
  have hxg := gv_lt hxs (by decide)
  obtain ⟨E, hE⟩ : ∃ E, E = rootF d xs ns ls := ⟨_, rfl⟩
  have hE32 : H32 E.1 := by rw [hE]; exact rootF_32 d xs ns hls
  refine Gives.enter (n := 106) Tryd.func8 rfl Tryd.ntmps8 rfl (env := [(0, .int .i64 d), (1, .slice A xs.length c), (2, .slice B (List.length ns) cb), (3, .slice C (List.length ls) cl), (4, .int .u64 (n : Int))]) rfl ?_
  refine qD ?_
  refine qB ?_
  refine qE ?_
  refine WC.seq ?_
  refine qD ?_
  refine WL.ac rfl rfl rfl (Ac.call rfl Tryd.func29 nm29 rfl (lives33_ok w (hT.keep M0.keep))) ?_; rintro v2 w2 ⟨rfl, K2⟩
  have M2 := M0.step K2
  refine WL.ex rfl rfl rfl (Ex.not rfl) ?_
  refine qA ?_
  refine WL.yes rfl rfl rfl rfl ?_
  refine qA ?_
  refine WL.yes rfl rfl rfl rfl ?_
  refine WL.ex rfl rfl rfl (Ex.len Tryd.underlying67 rfl) ?_
  refine WL.yes rfl rfl rfl rfl ?_
  refine WL.ex rfl rfl rfl (Ex.gtr rfl rfl) ?_
  by_cases h15 : (20 : Int) < (xs.length : Int)
  · rw [decide_eq_true h15]
    refine WL.ex rfl rfl rfl (Ex.pickF rfl rfl) ?_
    refine qA ?_
    refine WL.no rfl rfl rfl rfl rfl rfl ?_
    refine WL.no rfl rfl rfl rfl rfl rfl ?_
    refine WL.no rfl rfl rfl rfl rfl rfl ?_
    refine WL.ex rfl rfl rfl (Ex.pickT rfl rfl) ?_
    refine qA ?_
    refine WL.no rfl rfl rfl rfl rfl rfl ?_
    refine WL.no rfl rfl rfl rfl rfl rfl ?_
    refine WL.no rfl rfl rfl rfl rfl rfl ?_
    refine WL.ex rfl rfl rfl (Ex.pickT rfl rfl) ?_
    refine qE ?_
    refine WC.yes rfl ?_
    refine qD ?_
    refine WL.ac rfl rfl rfl (Ac.call rfl Tryd.func29 nm29 rfl (lives33_ok w2 (hT.keep M2.keep))) ?_; rintro v13 w13 ⟨rfl, K13⟩
    have M13 := M2.step K13
    refine qB ?_
    refine qE ?_
    refine WC.ret ?_
    refine WX.ret_then (?_)
    refine WX.ret1 rfl rfl ?_
    exact ⟨rfl, M13.keep⟩
  · rw [decide_eq_false h15]
    refine WL.ex rfl rfl rfl (Ex.pickF rfl rfl) ?_
    refine qA ?_
    refine WL.yes rfl rfl rfl rfl ?_
    refine qA ?_
    refine WL.yes rfl rfl rfl rfl ?_
    refine WL.ex rfl rfl rfl (Ex.len Tryd.underlying39 rfl) ?_
    refine WL.yes rfl rfl rfl rfl ?_
    refine WL.ex rfl rfl rfl (Ex.gtr rfl rfl) ?_
    by_cases h110 : (200 : Int) < ((List.length ns : Nat) : Int)
    · rw [decide_eq_true h110]
      refine WL.ex rfl rfl rfl (Ex.pickF rfl rfl) ?_
      refine qA ?_
      refine WL.no rfl rfl rfl rfl rfl rfl ?_
      refine WL.no rfl rfl rfl rfl rfl rfl ?_
      refine WL.no rfl rfl rfl rfl rfl rfl ?_
      refine WL.ex rfl rfl rfl (Ex.pickT rfl rfl) ?_
      refine qE ?_
      refine WC.yes rfl ?_
      refine qD ?_
      refine WL.ac rfl rfl rfl (Ac.call rfl Tryd.func29 nm29 rfl (lives33_ok w2 (hT.keep M2.keep))) ?_; rintro v23 w23 ⟨rfl, K23⟩
      have M23 := M2.step K23
      refine qB ?_
      refine qE ?_
      refine WC.ret ?_
      refine WX.ret_then (?_)
      refine WX.ret1 rfl rfl ?_
      exact ⟨rfl, M23.keep⟩
    · rw [decide_eq_false h110]
      refine WL.ex rfl rfl rfl (Ex.pickF rfl rfl) ?_
      refine qA ?_
      refine WL.yes rfl rfl rfl rfl ?_
      refine qA ?_
      refine WL.yes rfl rfl rfl rfl ?_
      refine WL.ex rfl rfl rfl (Ex.len Tryd.underlying39 rfl) ?_
      refine WL.yes rfl rfl rfl rfl ?_
      refine WL.ex rfl rfl rfl (Ex.gtr rfl rfl) ?_
      refine WL.ex rfl rfl rfl (Ex.pickF rfl rfl) ?_
      refine qE ?_
      refine WC.cond_dec rfl (fun h33 => ?_) (fun h33 => ?_)
      · skip
        refine qD ?_
        refine WL.ac rfl rfl rfl (Ac.call rfl Tryd.func29 nm29 rfl (lives33_ok w2 (hT.keep M2.keep))) ?_; rintro v31 w31 ⟨rfl, K31⟩
        have M31 := M2.step K31
        refine qB ?_
        refine qE ?_
        refine WC.ret ?_
        refine WX.ret_then (?_)
        refine WX.ret1 rfl rfl ?_
        exact ⟨rfl, M31.keep⟩
      · have hb1 : xs.length ≤ 20 := by omega
        have hb2 : ns.length ≤ 200 := by omega
        have hb3 : ls.length ≤ 20 := by omega
        refine WC.skip ?_
        refine WX.next ?_
        refine qD ?_
        refine WL.ac rfl rfl rfl (Ac.bs0 M2 Tryd.underlying67 sz23) ?_; rintro v33 w33 ⟨gp, rfl, hg33, K33, M33⟩
        refine qA ?_
        refine WL.ac rfl rfl rfl (Ac.app M33 el67 rfl rfl (i := 0) rfl (by simp) (M33.rd hr) (u64V_one _) (by omega) (by unfold maxLen; omega)) ?_; rintro v35 w35 ⟨K35, M35⟩
        try dsimp only [List.set] at M35
        simp only [Nat.zero_add, List.nil_append] at M35
        obtain ⟨Ap, cp, rfl⟩ := own_slice (M35.get (i := 0) rfl)
        refine WL.ac rfl rfl rfl (Ac.bs0 M35 Tryd.underlying39 sz31) ?_; rintro v36 w36 ⟨gn, rfl, hg36, K36, M36⟩
        refine qA ?_
        refine WL.ac rfl rfl rfl (Ac.app M36 el39 rfl rfl (i := 0) rfl (fl_len hns) (M36.rd hrn) (fl_one _) (by omega) (by unfold maxLen; omega)) ?_; rintro v38 w38 ⟨K38, M38⟩
        try dsimp only [List.set] at M38
        simp only [Nat.zero_add, List.nil_append] at M38
        obtain ⟨An, cn, rfl⟩ := own_slice (M38.get (i := 0) rfl)
        have hcn := capL (M38.get (i := 0) rfl)
        refine WL.ex rfl rfl rfl (Ex.bldS bd72 (parts := [(0, .tmp 37), (1, .tmp 40)]) [[.slice Ap xs.length cp], [.slice An (List.length ns) cn]] (l := [.slice Ap xs.length cp, .slice An (List.length ns) cn]) rfl rfl rfl ⟨0, 1, rfl, rfl, rfl, by simp, 1, 1, rfl, rfl, rfl, by simp [splice], rfl⟩) ?_
        refine WL.ac rfl rfl rfl (Ac.alloc M38 (l := [.slice none 0 0, .slice none 0 0]) (by kernel_rfl)) ?_; rintro v40 w40 ⟨gb, rfl, hg40, K40, M40⟩
        refine WL.ac0 rfl rfl (Ac.stA M40 ty72 rfl rfl (vs := [.slice Ap xs.length cp, .slice An (List.length ns) cn]) rfl rfl (by intro u hu; simp at hu; rcases hu with rfl | rfl <;> rfl) (i := 0) rfl (by simp)) ?_; rintro v41 w41 ⟨K41, M41⟩
        try dsimp only [List.set] at M41
        try dsimp only [List.set] at M41
        rw [splice_all _ _ (by simp)] at M41
        refine qE ?_
        refine qD ?_
        refine WL.ex rfl rfl rfl (Ex.loadA ty72 rfl (l := [.slice Ap xs.length cp, .slice An (List.length ns) cn]) rfl (M41.rdw (i := 0) rfl)) ?_
        refine qA ?_
        refine qA ?_
        refine WL.ac rfl rfl rfl (Ac.call rfl Tryd.func37 nm37 rfl (root_ok w41 Ap An C cp cn cl xs ns ls d (M41.rdr (i := 2) rfl) hxg (by omega) (M41.rdr (i := 1) rfl) hns (by omega) hcn (M41.rd hrl) hls (by omega) (hT.keep M41.keep))) ?_; rintro v45 w45 ⟨rfl, K45⟩
        rw [← hE]
        have M45 := M41.step K45
        refine qA ?_
        refine WL.ex rfl rfl rfl (Ex.ext rfl rfl) ?_
        refine WL.ex rfl rfl rfl (Ex.ext rfl rfl) ?_
        refine WL.ac rfl rfl rfl (Ac.alloc M45 (l := bytesV (List.replicate 32 0)) (by kernel_rfl)) ?_; rintro v49 w49 ⟨gh, rfl, hg49, K49, M49⟩
        refine WL.ac0 rfl rfl (Ac.stA M49 ty31 rfl rfl rfl (h32_len (by first | assumption | exact h32_0)) (bytesV_one _) (i := 0) rfl (by first | (rw [h32_len (by first | assumption | exact h32_0), h32_len (by first | assumption | exact h32_0)]; decide) | (rw [h32_len (by first | assumption | exact h32_0)]; decide) | rw [h32_len (by first | assumption | exact h32_0)])) ?_; rintro v50 w50 ⟨K50, M50⟩
        try dsimp only [List.set] at M50
        rw [splice_all _ _ (by first | rw [h32_len (by first | assumption | exact h32_0), h32_len (by first | assumption | exact h32_0)] | rw [h32_len (by first | assumption | exact h32_0)])] at M50
        refine qB ?_
        refine qE ?_
        refine qD ?_
        refine qA ?_
        refine qA ?_
        refine qA ?_
        refine qA ?_
        refine WL.ac rfl rfl rfl (Ac.call rfl Tryd.func38 nm38 rfl (rroot_ok w50 A B C c cb cl xs ns ls d (M50.rd hr) hxg (by omega) (M50.rd hrn) hns (by omega) hcb (M50.rd hrl) hls (by omega) (hR.keep0 M50.keep))) ?_; rintro v56 w56 ⟨rfl, K56⟩
        rw [← hE]
        have M56 := M50.step K56
        refine qA ?_
        refine WL.ex rfl rfl rfl (Ex.ext rfl rfl) ?_
        refine WL.ex rfl rfl rfl (Ex.ext rfl rfl) ?_
        refine WL.ac rfl rfl rfl (Ac.alloc M56 (l := bytesV (List.replicate 32 0)) (by kernel_rfl)) ?_; rintro v60 w60 ⟨gw, rfl, hg60, K60, M60⟩
        refine WL.ac0 rfl rfl (Ac.stA M60 ty31 rfl rfl rfl (h32_len (by first | assumption | exact h32_0)) (bytesV_one _) (i := 0) rfl (by first | (rw [h32_len (by first | assumption | exact h32_0), h32_len (by first | assumption | exact h32_0)]; decide) | (rw [h32_len (by first | assumption | exact h32_0)]; decide) | rw [h32_len (by first | assumption | exact h32_0)])) ?_; rintro v61 w61 ⟨K61, M61⟩
        try dsimp only [List.set] at M61
        rw [splice_all _ _ (by first | rw [h32_len (by first | assumption | exact h32_0), h32_len (by first | assumption | exact h32_0)] | rw [h32_len (by first | assumption | exact h32_0)])] at M61
        refine qB ?_
        refine qE ?_
        refine WC.seq ?_
        refine qD ?_
        refine WL.ex rfl rfl rfl (Ex.loadA ty31 rfl (h32_len (by first | assumption | exact h32_0)) (M61.rdw (i := 1) rfl)) ?_
        refine WL.ex rfl rfl rfl (Ex.loadA ty31 rfl (h32_len (by first | assumption | exact h32_0)) (M61.rdw (i := 0) rfl)) ?_
        refine WL.ex rfl rfl rfl (Ex.neA rfl rfl (eqHash w hE32 hE32)) ?_
        rw [decide_eq_true rfl]
        refine qA ?_
        refine WL.yes rfl rfl rfl rfl ?_
        refine qA ?_
        refine WL.yes rfl rfl rfl rfl ?_
        refine qA ?_
        refine WL.yes rfl rfl rfl rfl ?_
        refine WL.ex rfl rfl rfl (Ex.neIf rfl rfl (rfl)) ?_
        refine WL.ex rfl rfl rfl (Ex.pickF rfl rfl) ?_
        refine qA ?_
        refine WL.yes rfl rfl rfl rfl ?_
        refine WL.ex rfl rfl rfl (Ex.fa fl72_1 rfl) ?_
        refine WL.yes rfl rfl rfl rfl ?_
        refine WL.ex rfl rfl rfl (Ex.load ty39 rfl (M61.cell (i := 2) (v := .slice An (List.length ns) cn) rfl rfl)) ?_
        refine WL.yes rfl rfl rfl rfl ?_
        refine qA ?_
        refine WL.yes rfl rfl rfl rfl ?_
        refine WL.ac rfl rfl rfl (Ac.call rfl Tryd.func34 nm34 rfl (same_ok w61 An B cn cb ns ns (M61.rdr (i := 3) rfl) (M61.rd hrn) hns hns (by omega) (by omega))) ?_; rintro v75 w75 ⟨rfl, K75⟩
        rw [decide_eq_true rfl]
        have M75 := M61.step K75
        refine WL.yes rfl rfl rfl rfl ?_
        refine WL.ex rfl rfl rfl (Ex.not rfl) ?_
        refine WL.ex rfl rfl rfl (Ex.pickF rfl rfl) ?_
        refine qE ?_
        refine WC.no rfl ?_
        refine WC.skip ?_
        refine WX.next ?_
        refine qD ?_
        refine qA ?_
        refine qB ?_
        refine qE ?_
        refine WC.seq ?_
        refine qD ?_
        refine qA ?_
        refine WL.ex rfl rfl rfl (Ex.eqI rfl rfl) ?_
        by_cases he0 : E.2 = 0
        · rw [decide_eq_true he0]
          have he1 : (rootF d xs ns ls).2 = 0 := by rw [← hE]; exact he0
          obtain ⟨hxp, hsi⟩ := rootF_0 he1
          have hlast := mxp_last hsi hxp
          obtain ⟨b0, o0, hA, _⟩ := hr.plain (by simp; omega)
          subst hA
          refine qA ?_
          refine WL.yes rfl rfl rfl rfl ?_
          refine qA ?_
          refine WL.yes rfl rfl rfl rfl ?_
          refine qA ?_
          refine WL.yes rfl rfl rfl rfl ?_
          refine WL.ex rfl rfl rfl (Ex.len Tryd.underlying67 rfl) ?_
          refine WL.yes rfl rfl rfl rfl ?_
          refine WL.ex rfl rfl rfl (Ex.sub rfl rfl (c := ((xs.length - 1 : Nat) : Int)) (by rw [show (xs.length : Int) - 1 = ((xs.length - 1 : Nat) : Int) by omega]; exact i64w _ (by omega) (by omega))) ?_
          refine WL.yes rfl rfl rfl rfl ?_
          refine WL.ex rfl rfl rfl (Ex.ia Tryd.underlying67 sz23 rfl rfl ⟨by omega, by omega⟩) ?_
          refine WL.yes rfl rfl rfl rfl ?_
          refine WL.ex rfl rfl rfl (Ex.load ty23 rfl (u64_at (M75.rd hr) (k := xs.length - 1) (by omega) (by omega))) ?_
          refine WL.yes rfl rfl rfl rfl ?_
          refine qA ?_
          refine WL.yes rfl rfl rfl rfl ?_
          refine WL.ex rfl rfl rfl (Ex.geq rfl rfl) ?_
          refine WL.ex rfl rfl rfl (Ex.pickT rfl rfl) ?_
          refine qE ?_
          refine WC.cond_dec rfl (fun h84 => ?_) (fun h84 => ?_)
          · have hck : checkF d xs ns ls E.1 n = 10 := check_10 _ he1 (by omega)
            refine WC.region ?_
            refine qB ?_
            refine qE ?_
            refine WC.seq ?_
            refine qD ?_
            refine WL.ex rfl rfl rfl (Ex.loadA ty72 rfl (l := [.slice Ap xs.length cp, .slice An (List.length ns) cn]) rfl (M75.rdw (i := 2) rfl)) ?_
            refine qA ?_
            refine WL.ex rfl rfl rfl (Ex.loadA ty31 rfl (h32_len (by first | assumption | exact h32_0)) (M75.rdw (i := 1) rfl)) ?_
            refine qA ?_
            refine qA ?_
            refine WL.ac rfl rfl rfl (Ac.call rfl Tryd.func39 nm39 rfl (check33_ok w75 Ap An C cp cn cl xs ns ls d E.1 n (M75.rdr (i := 4) rfl) hxg (by omega) (M75.rdr (i := 3) rfl) hns (by omega) hcn (M75.rd hrl) hls (by omega) hE32 (hT.keep M75.keep))) ?_; rintro v98 w98 ⟨rfl, K98⟩
            have M98 := M75.step K98
            refine qA ?_
            refine WL.ex rfl rfl rfl (Ex.neIf rfl rfl (hck)) ?_
            refine qE ?_
            refine WC.no rfl ?_
            refine WC.skip ?_
            refine WX.next ?_
            refine WC.seq ?_
            refine qD ?_
            refine qA ?_
            refine WL.ex rfl rfl rfl (Ex.neIt rfl rfl (by decide)) ?_
            refine qE ?_
            refine WC.yes rfl ?_
            refine qD ?_
            refine qB ?_
            refine qE ?_
            refine WC.ret ?_
            refine WX.ret_then (?_)
            refine WX.ret1 rfl rfl ?_
            exact ⟨rfl, M98.keep⟩
          · have hmx : ¬ n ≤ mxp xs xs.length := by omega
            have hck : checkF d xs ns ls E.1 n = E.2 := by rw [he0]; exact check_0 he1 hmx (by rw [← hE])
            refine WC.skip ?_
            refine WX.next ?_
            refine WC.seq ?_
            refine qD ?_
            refine WL.ex rfl rfl rfl (Ex.loadA ty72 rfl (l := [.slice Ap xs.length cp, .slice An (List.length ns) cn]) rfl (M75.rdw (i := 2) rfl)) ?_
            refine qA ?_
            refine WL.ex rfl rfl rfl (Ex.loadA ty31 rfl (h32_len (by first | assumption | exact h32_0)) (M75.rdw (i := 1) rfl)) ?_
            refine qA ?_
            refine qA ?_
            refine WL.ac rfl rfl rfl (Ac.call rfl Tryd.func39 nm39 rfl (check33_ok w75 Ap An C cp cn cl xs ns ls d E.1 n (M75.rdr (i := 4) rfl) hxg (by omega) (M75.rdr (i := 3) rfl) hns (by omega) hcn (M75.rd hrl) hls (by omega) hE32 (hT.keep M75.keep))) ?_; rintro v109 w109 ⟨rfl, K109⟩
            have M109 := M75.step K109
            refine qA ?_
            refine WL.ex rfl rfl rfl (Ex.neIf rfl rfl (hck)) ?_
            refine qE ?_
            refine WC.no rfl ?_
            refine WC.skip ?_
            refine WX.next ?_
            refine WC.seq ?_
            refine qD ?_
            refine qA ?_
            refine WL.ex rfl rfl rfl (Ex.neIf rfl rfl (he0)) ?_
            refine qE ?_
            refine WC.no rfl ?_
            refine WC.skip ?_
            refine WX.next ?_
            refine qD ?_
            obtain ⟨b1, rr, hb1e⟩ : ∃ b r, E.1 = b :: r := by
              cases hq : E.1 with
              | nil => rw [hq] at hE32; cases hE32
              | cons b r => exact ⟨b, r, rfl⟩
            rw [hb1e] at M109 hE32
            have hh32 : H32 ((b1 + 1) :: rr) := hE32
            have hck2 : checkF d xs ns ls ((b1 + 1) :: rr) n = 14 := check_14 he1 hmx (by
              rw [← hE, hb1e]
              intro h
              exact u8ne b1 (List.cons.inj h).1)
            refine WL.ex rfl rfl rfl (Ex.iaA Tryd.underlying31 sz5 rfl rfl ⟨by omega, by omega⟩) ?_
            refine WL.ex rfl rfl rfl (Ex.load ty5 rfl (M109.cell (i := 1) (v := .int .u8 (b1.toNat : Int)) rfl rfl)) ?_
            refine WL.ex rfl rfl rfl (Ex.add rfl rfl (u8inc b1)) ?_
            refine WL.ex rfl rfl rfl (Ex.iaA Tryd.underlying31 sz5 rfl rfl ⟨by omega, by omega⟩) ?_
            refine WL.ac0 rfl rfl (Ac.st M109 ty5 rfl rfl rfl (i := 1) rfl (by simp)) ?_; rintro v118 w118 ⟨K118, M118⟩
            try dsimp only [List.set] at M118
            rw [show List.set (bytesV (b1 :: rr)) (0 + (0 : Int).toNat * 1) (.int .u8 ((b1 + 1 : UInt8).toNat : Int)) = bytesV ((b1 + 1) :: rr) from rfl] at M118
            refine qE ?_
            refine qD ?_
            refine WL.ex rfl rfl rfl (Ex.loadA ty72 rfl (l := [.slice Ap xs.length cp, .slice An (List.length ns) cn]) rfl (M118.rdw (i := 2) rfl)) ?_
            refine qA ?_
            refine WL.ex rfl rfl rfl (Ex.loadA ty31 rfl (l := bytesV ((b1 + 1) :: rr)) (h32_len hh32) (M118.rdw (i := 1) rfl)) ?_
            refine qA ?_
            refine qA ?_
            refine WL.ac rfl rfl rfl (Ac.call rfl Tryd.func39 nm39 rfl (check33_ok w118 Ap An C cp cn cl xs ns ls d ((b1 + 1) :: rr) n (M118.rdr (i := 4) rfl) hxg (by omega) (M118.rdr (i := 3) rfl) hns (by omega) hcn (M118.rd hrl) hls (by omega) hh32 (hT.keep M118.keep))) ?_; rintro v124 w124 ⟨rfl, K124⟩
            have M124 := M118.step K124
            refine WL.ex rfl rfl rfl (Ex.eqIt rfl rfl (hck2)) ?_
            refine qB ?_
            refine qE ?_
            refine WC.ret ?_
            refine WX.ret1 rfl rfl ?_
            exact ⟨rfl, M124.keep⟩
        · rw [decide_eq_false he0]
          have he1 : (rootF d xs ns ls).2 ≠ 0 := by rw [← hE]; exact he0
          have hck : checkF d xs ns ls E.1 n = E.2 := by rw [check_e _ he1, ← hE]
          refine qA ?_
          refine WL.no rfl rfl rfl rfl rfl rfl ?_
          refine WL.no rfl rfl rfl rfl rfl rfl ?_
          refine WL.no rfl rfl rfl rfl rfl rfl ?_
          refine WL.no rfl rfl rfl rfl rfl rfl ?_
          refine WL.no rfl rfl rfl rfl rfl rfl ?_
          refine WL.no rfl rfl rfl rfl rfl rfl ?_
          refine WL.no rfl rfl rfl rfl rfl rfl ?_
          refine WL.no rfl rfl rfl rfl rfl rfl ?_
          refine WL.ex rfl rfl rfl (Ex.pickF rfl rfl) ?_
          refine qE ?_
          refine WC.no rfl ?_
          refine WC.skip ?_
          refine WX.next ?_
          refine WC.seq ?_
          refine qD ?_
          refine WL.ex rfl rfl rfl (Ex.loadA ty72 rfl (l := [.slice Ap xs.length cp, .slice An (List.length ns) cn]) rfl (M75.rdw (i := 2) rfl)) ?_
          refine qA ?_
          refine WL.ex rfl rfl rfl (Ex.loadA ty31 rfl (h32_len (by first | assumption | exact h32_0)) (M75.rdw (i := 1) rfl)) ?_
          refine qA ?_
          refine qA ?_
          refine WL.ac rfl rfl rfl (Ac.call rfl Tryd.func39 nm39 rfl (check33_ok w75 Ap An C cp cn cl xs ns ls d E.1 n (M75.rdr (i := 4) rfl) hxg (by omega) (M75.rdr (i := 3) rfl) hns (by omega) hcn (M75.rd hrl) hls (by omega) hE32 (hT.keep M75.keep))) ?_; rintro v134 w134 ⟨rfl, K134⟩
          have M134 := M75.step K134
          refine qA ?_
          refine WL.ex rfl rfl rfl (Ex.neIf rfl rfl (hck)) ?_
          refine qE ?_
          refine WC.no rfl ?_
          refine WC.skip ?_
          refine WX.next ?_
          refine WC.seq ?_
          refine qD ?_
          refine qA ?_
          refine WL.ex rfl rfl rfl (Ex.neIt rfl rfl (he0)) ?_
          refine qE ?_
          refine WC.yes rfl ?_
          refine qD ?_
          refine qB ?_
          refine qE ?_
          refine WC.ret ?_
          refine WX.ret_then (?_)
          refine WX.ret1 rfl rfl ?_
          exact ⟨rfl, M134.keep⟩

end Go.Proofs.YtchmjpdkonfifaaDoor
