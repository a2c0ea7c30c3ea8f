/- Walks, written by gen.py off the translation's own print: each says what the Go function comes to. -/
import Derived.Test.YtchmjpdkonfifaaDoorOe
set_option linter.unusedVariables false
set_option linter.unusedSimpArgs false
namespace Go.Proofs.YtchmjpdkonfifaaDoor
open Go.Sx Go.RowKit
attribute [local irreducible] Ac Ex WL WC WX WP Gives sha

def ad1 (its : List Itt) (x : Itt) : List Itt := if mayI ⟨its.length, x.tk, x.ow, x.am⟩ then its ++ [⟨its.length, x.tk, x.ow, x.am⟩] else its
def addsL (its l : List Itt) : List Itt := l.foldl ad1 its
theorem adds_snoc {its l : List Itt} {i : Nat} {p : Itt} (h : l[i]? = some p) : addsL its (l.take (i + 1)) = ad1 (addsL its (l.take i)) p := by
  rw [take_snoc h, addsL, List.foldl_append]
  rfl
theorem ad1_pre (its : List Itt) (x : Itt) : ∃ r, ad1 its x = its ++ r := by
  unfold ad1
  split
  · exact ⟨_, rfl⟩
  · exact ⟨[], by simp⟩
theorem adds_pre : ∀ (l its : List Itt), ∃ r, addsL its l = its ++ r
  | [], its => ⟨[], by simp [addsL]⟩
  | x :: l, its => by
    obtain ⟨r1, h1⟩ := ad1_pre its x
    obtain ⟨r2, h2⟩ := adds_pre l (ad1 its x)
    exact ⟨r1 ++ r2, by show addsL (ad1 its x) l = _; rw [h2, h1, List.append_assoc]⟩
theorem ls_pos {l : List Itt} (hok : ∀ a ∈ l, IttOk a) (h : l ≠ []) : 0 < (l.flatMap ittC).length := by
  cases l with
  | nil => exact absurd rfl h
  | cons a l =>
    rw [List.flatMap_cons, List.length_append, itt_len (hok a (by simp))]
    omega
theorem ok_itts {w : World} {v : Value} (h : CK.ok w (.sl ittK) v) : ∃ A c, ∃ l : List Itt, v = .slice A l.length c ∧ l.length ≤ c ∧ c ≤ maxLen ∧ Rd w A (l.flatMap ittC) ∧ ∀ a ∈ l, IttOk a := by
  obtain ⟨A, c, es, h1, h2, h3, h4, h5⟩ := sl_view h ittC IttOk (fun vs hv => itt_view vs hv)
  exact ⟨A, c, es, h1, h2, h3, h4, h5⟩

/- sponsion/sponsionlaw19.OutboxStays$1 -/
theorem adds_ok (w : World) (go gt gl ge : Nat) (vs : List Value) (A : Option Addr) (c : Nat) (its : List Itt) (g7 : Nat) (L : Option Addr) (d : Nat) (l : List Itt) (hR : (oR go gt gl ge vs A c its).sat w) (hc : w.cell? ⟨g7, 0, none⟩ = some (.pointer (some ⟨go, 0, none⟩))) (hg7 : g7 ∉ (oR go gt gl ge vs A c its).fp) (hr : Rd w L (l.flatMap ittC)) (hokl : ∀ t ∈ l, IttOk t) (hrL : l ≠ [] → ∀ b, L = some b → b.block ∉ (oR go gt gl ge vs A c its).fp) (hok : ∀ t ∈ its, IttOk t) (hl : its.length ≤ 30) (hll : l.length ≤ 15) (hT : Tabs w) (hFT : ∀ b ∈ (oR go gt gl ge vs A c its).fp, b ≠ 1 ∧ b ≠ 2) :
    Gives Tryd.prog 22 #[.slice L l.length d, .pointer (some ⟨g7, 0, none⟩)] w fun u w1 => ∃ vs1 A1 c1, (∀ t ∈ addsL its l, IttOk t) ∧ (addsL its l).length ≤ its.length + l.length ∧ Turn w w1 (oR go gt gl ge vs A c its) (oR go gt gl ge vs1 A1 c1 (addsL its l)) := by
  obtain ⟨FF, hFF⟩ : ∃ FF : Nat → Prop, FF = (fun b => b ∈ (oR go gt gl ge vs A c its).fp) := ⟨_, rfl⟩
  have M0 : Mem w w FF [oR go gt gl ge vs A c its] := by rw [hFF]; exact Mem.begin hR
  replace hrL : l ≠ [] → ∀ b, L = some b → ¬ FF b.block := by rw [hFF]; exact hrL
  replace hg7 : ¬ FF g7 := by rw [hFF]; exact hg7
  refine Gives.enter (n := 30) Tryd.func22 rfl Tryd.ntmps22 rfl (env := [(0, .slice L l.length d), (1, .pointer (some ⟨g7, 0, none⟩))]) rfl ?_
  refine WC.seq ?_
  refine WC.region ?_
  refine WL.ex rfl rfl rfl (Ex.mv rfl) ?_
  refine WL.ex rfl rfl rfl (Ex.len Tryd.underlying27 rfl) ?_
  refine WL.ex rfl rfl rfl (Ex.mv rfl) ?_
  refine WL.nil ?_
  refine WX.next (?_)
  refine WC.block ?_
  refine WC.loop (σ := Nat × List Value × Option Addr × Nat × List Itt) (fun s => [(1, .pointer (some ⟨g7, 0, none⟩)), (7, .slice L l.length d), (8, .int .i64 (l.length : Int)), (9, .int .i64 (s.1 : Int))]) (fun s wr => s.1 ≤ l.length ∧ s.2.2.2.2 = addsL its (l.take s.1) ∧ (∀ t ∈ s.2.2.2.2, IttOk t) ∧ s.2.2.2.2.length ≤ its.length + s.1 ∧ Mem w wr FF [oR go gt gl ge s.2.1 s.2.2.1 s.2.2.2.1 s.2.2.2.2]) (fun s => l.length - s.1) (((0, vs, A, c, its) : Nat × List Value × Option Addr × Nat × List Itt)) ?_ (.cons rfl (.cons rfl (.cons rfl (.cons rfl (.nil))))) ?_
  · exact ⟨by simp, by simp [addsL], hok, by simp, M0⟩
  rintro ⟨i, vs1, A1, c1, its1⟩ w4 ⟨hi, hie, hok2, hli, M4⟩
  dsimp only at hi hie hok2 hli M4
  refine WC.sub (env' := [(1, .pointer (some ⟨g7, 0, none⟩)), (7, .slice L l.length d), (8, .int .i64 (l.length : Int)), (9, .int .i64 (i : Int))]) (.cons rfl (.cons rfl (.cons rfl (.cons rfl (.nil))))) ?_
  refine WC.seq ?_
  refine WC.region ?_
  refine WL.ex rfl rfl rfl (Ex.lss rfl rfl) ?_
  refine WL.nil ?_
  refine WX.next (?_)
  refine WC.seq ?_
  refine WC.cond_dec rfl (fun hc10 => ?_) (fun hc10 => ?_)
  · obtain ⟨p, hpi⟩ : ∃ p, l[i]? = some p := ⟨_, List.getElem?_eq_getElem (by omega)⟩
    have hpm := List.mem_of_getElem? hpi
    have hpo := hokl p hpm
    obtain ⟨b0, o0, hA0⟩ := hr.flat_plain hpm (by rw [itt_len hpo]; omega)
    have hb0 := hrL (fun h => by rw [h] at hpi; simp at hpi) _ hA0
    subst hA0
    obtain ⟨X, hX⟩ : ∃ X : Itt, X = ⟨its1.length, p.tk, p.ow, p.am⟩ := ⟨_, rfl⟩
    have hXo : IttOk X := by rw [hX]; exact ⟨by show its1.length < 4294967296; omega, hpo.tk, hpo.ow, hpo.am⟩
    have hny := nxI_ok hXo
    refine WC.skip ?_
    refine WX.next (?_)
    refine WC.seq ?_
    refine WC.block ?_
    refine WC.seq ?_
    refine WC.region ?_
    refine WL.ex rfl rfl rfl (Ex.ia Tryd.underlying27 sz50 rfl rfl ⟨by omega, by omega⟩) ?_
    refine WL.ex rfl rfl rfl (Ex.loadA ty50 rfl (l := ittC p) (itt_len hpo) (Rd.flat (hr.keep M4.keep (fun b hb hm => by injection hb with hb; subst hb; exact hb0 hm)) (i := (i : Int).toNat) (fun t ht => itt_len (hokl t ht)) (by simpa using hpi))) ?_
    refine WL.ac rfl rfl rfl (Ac.alloc M4 (l := ittC itt0) (by kernel_rfl)) ?_; rintro v8 w8 ⟨gx, rfl, hg8, K8, M8⟩
    refine WL.ac0 rfl rfl (Ac.stA M8 ty50 rfl rfl rfl (itt_len (by first | assumption | exact itt0_ok)) itt_one (i := 0) rfl (by first | (rw [itt_len (by first | assumption | exact itt0_ok), itt_len (by first | assumption | exact itt0_ok)]; decide) | (rw [itt_len (by first | assumption | exact itt0_ok)]; decide) | rw [itt_len (by first | assumption | exact itt0_ok)])) ?_; rintro v9 w9 ⟨K9, M9⟩
    try dsimp only [List.set] at M9
    rw [splice_all _ _ (by first | rw [itt_len (by first | assumption | exact itt0_ok), itt_len (by first | assumption | exact itt0_ok)] | rw [itt_len (by first | assumption | exact itt0_ok)])] at M9
    refine WL.nil ?_
    refine WX.next (?_)
    refine WC.seq ?_
    refine WC.region ?_
    refine WL.ex rfl rfl rfl (Ex.load ty25 rfl (M9.keep.cell hc hg7)) ?_
    refine WL.ex rfl rfl rfl (Ex.fa fl50_1 rfl) ?_
    refine WL.ex rfl rfl rfl (Ex.load ty5 rfl (M9.cell (i := 0) rfl (itt_g1 (by first | assumption | exact itt0_ok)))) ?_
    refine WL.ex rfl rfl rfl (Ex.fa fl50_2 rfl) ?_
    refine WL.ex rfl rfl rfl (Ex.load ty5 rfl (M9.cell (i := 0) rfl (itt_g2 (by first | assumption | exact itt0_ok)))) ?_
    refine WL.ex rfl rfl rfl (Ex.fa fl50_3 rfl) ?_
    refine WL.ex rfl rfl rfl (Ex.loadA ty48 rfl (int4_len (IttOk.am (by first | assumption | exact itt0_ok))) (M9.rdt (i := 0) rfl (itt_g3 (by first | assumption | exact itt0_ok)))) ?_
    refine WL.ac rfl rfl rfl (Ac.call rfl Tryd.func23 nm23 rfl (oNext_ok w9 go gt gl ge vs1 A1 c1 its1 p.tk p.ow p.am (OxS.of (M9.get (i := 1) rfl)) (by omega) hpo.tk hpo.ow hpo.am)) ?_; rintro v17 w17 ⟨rfl, K17⟩
    rw [← hX]
    have M17 := M9.step K17
    refine WL.ex rfl rfl rfl (Ex.mv rfl) ?_
    refine WL.ex rfl rfl rfl (Ex.ext rfl rfl) ?_
    refine WL.ex rfl rfl rfl (Ex.ext rfl rfl) ?_
    refine WL.ac rfl rfl rfl (Ac.alloc M17 (l := ittC itt0) (by kernel_rfl)) ?_; rintro v21 w21 ⟨gy, rfl, hg21, K21, M21⟩
    refine WL.ac0 rfl rfl (Ac.stA M21 ty50 rfl rfl rfl (itt_len (by first | assumption | exact itt0_ok)) itt_one (i := 0) rfl (by first | (rw [itt_len (by first | assumption | exact itt0_ok), itt_len (by first | assumption | exact itt0_ok)]; decide) | (rw [itt_len (by first | assumption | exact itt0_ok)]; decide) | rw [itt_len (by first | assumption | exact itt0_ok)])) ?_; rintro v22 w22 ⟨K22, M22⟩
    try dsimp only [List.set] at M22
    rw [splice_all _ _ (by first | rw [itt_len (by first | assumption | exact itt0_ok), itt_len (by first | assumption | exact itt0_ok)] | rw [itt_len (by first | assumption | exact itt0_ok)])] at M22
    refine WL.ex rfl rfl rfl (Ex.asg rfl) ?_
    refine WL.nil ?_
    refine WX.next (?_)
    refine WC.seq ?_
    refine WC.region ?_
    refine WL.ex rfl rfl rfl (Ex.mv rfl) ?_
    refine WL.ex rfl rfl rfl (Ex.eqI rfl rfl) ?_
    by_cases hm : mayI X
    · have hne : nxI X = (X, 0) := if_pos hm
      rw [hne] at M22 ⊢
      dsimp only at M22
      obtain ⟨had, hal⟩ := ad_0 (its := its1) hm (by rw [hX])
      have had1 : its1 ++ [X] = ad1 its1 p := by rw [ad1, ← hX, if_pos hm]
      have hok3 : ∀ t ∈ its1 ++ [X], IttOk t := fun t ht => (List.mem_append.1 ht).elim (hok2 t) (fun h => by obtain rfl : t = X := (by simpa using h); exact hXo)
      refine WL.nil ?_
      refine WX.next (?_)
      refine WC.yes rfl ?_
      refine WC.region ?_
      refine WL.ex rfl rfl rfl (Ex.load ty25 rfl (M22.keep.cell hc hg7)) ?_
      refine WL.ex rfl rfl rfl (Ex.loadA ty50 rfl (l := ittC X) (itt_len hXo) (M22.rdw (i := 0) rfl)) ?_
      refine WL.ac rfl rfl rfl (Ac.call rfl Tryd.func24 nm24 rfl (oAdd_ok w22 go gt gl ge vs1 A1 c1 its1 X (M22.get (i := 2) rfl) hXo hok2 (by omega) (by have k := M22.keep; rw [hFF] at k; exact hT.keepF k hFT) (fun b hb => (M22.own _ (List.mem_of_getElem? (i := 2) rfl) b hb).elim (fun hle => hT.fresh hle) (fun f => hFT b (by rw [hFF] at f; exact f))))) ?_; rintro v28 w28 ⟨vs2, A2, c2, rfl, T28⟩
      rw [hal] at T28
      rw [had]
      have M28 := M22.turned (i := 2) rfl T28
      try dsimp only [List.set] at M28
      refine WL.nil ?_
      refine WX.normal_block (WX.next (?_))
      refine WC.region ?_
      refine WL.ex rfl rfl rfl (Ex.add rfl rfl (i64w _ (by omega) (by omega))) ?_
      refine WL.ex rfl rfl rfl (Ex.mv rfl) ?_
      refine WL.nil ?_
      refine WX.again (((i + 1, vs2, A2, c2, its1 ++ [X]) : Nat × List Value × Option Addr × Nat × List Itt)) ?_ ?_ (.cons rfl (.cons rfl (.cons rfl (.cons rfl (.nil)))))
      · dsimp only; omega
      · first
          | exact ⟨by dsimp only; omega, by dsimp only; rw [adds_snoc hpi, ← hie]; exact had1, hok3, by dsimp only; rw [List.length_append, List.length_singleton]; omega, (Mem.sub M28 (.cons _ (.cons _ (.refl _))))⟩
          | exact ⟨by dsimp only; omega, by dsimp only; rw [adds_snoc hpi, ← hie]; exact had1, hok2, by dsimp only; omega, (Mem.sub M28 (.cons _ (.cons _ (.refl _))))⟩
    · have hne : nxI X = (itt0, 6) := if_neg hm
      rw [hne] at M22 ⊢
      dsimp only at M22
      have had1 : its1 = ad1 its1 p := by rw [ad1, ← hX, if_neg hm]
      refine WL.nil ?_
      refine WX.next (?_)
      refine WC.no rfl ?_
      refine WC.skip ?_
      refine WX.normal_block (WX.next (?_))
      refine WC.region ?_
      refine WL.ex rfl rfl rfl (Ex.add rfl rfl (i64w _ (by omega) (by omega))) ?_
      refine WL.ex rfl rfl rfl (Ex.mv rfl) ?_
      refine WL.nil ?_
      refine WX.again (((i + 1, vs1, A1, c1, its1) : Nat × List Value × Option Addr × Nat × List Itt)) ?_ ?_ (.cons rfl (.cons rfl (.cons rfl (.cons rfl (.nil)))))
      · dsimp only; omega
      · first
          | exact ⟨by dsimp only; omega, by dsimp only; rw [adds_snoc hpi, ← hie]; exact had1, hok3, by dsimp only; rw [List.length_append, List.length_singleton]; omega, (Mem.sub M22 (.cons _ (.cons _ (.refl _))))⟩
          | exact ⟨by dsimp only; omega, by dsimp only; rw [adds_snoc hpi, ← hie]; exact had1, hok2, by dsimp only; omega, (Mem.sub M22 (.cons _ (.cons _ (.refl _))))⟩
  · obtain rfl : i = l.length := by omega
    rw [List.take_length] at hie
    subst hie
    refine WC.exit ?_
    refine WX.exit_then (WX.exit_then (WX.exit_block (?_)))
    refine WX.end0 rfl ?_
    have Mf : Mem w w4 FF [oR go gt gl ge vs1 A1 c1 (addsL its l)] := M4
    subst hFF
    exact ⟨vs1, A1, c1, hok2, hli, Mf.toTurn⟩

end Go.Proofs.YtchmjpdkonfifaaDoor
