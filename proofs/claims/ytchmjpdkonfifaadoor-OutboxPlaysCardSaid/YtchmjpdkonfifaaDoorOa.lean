/- Walks, written by gen.py off the translation's own print: each says what the Go function comes to. -/
import Derived.Test.YtchmjpdkonfifaaDoorWe
import Derived.Test.YtchmjpdkonfifaaDoorIb
set_option linter.unusedVariables false
set_option linter.unusedSimpArgs false
namespace Go.Proofs.YtchmjpdkonfifaaDoor
open Go.Sx Go.RowKit
attribute [local irreducible] Ac Ex WL WC WX WP Gives sha

theorem _root_.Go.Sx.Mem.tabF {w0 w : World} {rs : List Res} {r : Res} (M : Mem w0 w nof rs) (hT : Tabs w0) (i : Nat) (hi : rs[i]? = some r) : ∀ b ∈ r.fp, b ≠ 1 ∧ b ≠ 2 :=
  fun b hb => (M.own _ (List.mem_of_getElem? hi) b hb).elim (fun hle => hT.fresh hle) (fun f => f.elim)
theorem tApp_ok {d : Nat} {ls : Hs} {h : List UInt8} (hl : ls.length < 2 ^ d) : tApp d ls h = (ls.length, 0, ls ++ [h]) := if_pos hl
theorem tApp_a {d : Nat} {ls : Hs} {h : List UInt8} (hl : ls.length < 2 ^ d) : (tApp d ls h).1 = ls.length := by rw [tApp_ok hl]
theorem tApp_b {d : Nat} {ls : Hs} {h : List UInt8} (hl : ls.length < 2 ^ d) : (tApp d ls h).2.1 = 0 := by rw [tApp_ok hl]
theorem tApp_c {d : Nat} {ls : Hs} {h : List UInt8} (hl : ls.length < 2 ^ d) : (tApp d ls h).2.2 = ls ++ [h] := by rw [tApp_ok hl]
abbrev lsO (its : List Itt) : Hs := its.map iLeaf
theorem lsO32 (its : List Itt) : ∀ a ∈ lsO its, H32 a := by
  intro a ha
  obtain ⟨t, _, rfl⟩ := List.mem_map.1 ha
  exact iLeaf_len t
@[simp] theorem lsO_len (its : List Itt) : (lsO its).length = its.length := by simp
abbrev oB (go gt : Nat) (v : Value) : Res := blk go [v, .pointer (some ⟨gt, 0, none⟩)] 93
abbrev oV (A : Option Addr) (c : Nat) (its : List Itt) : Res := row (.slice A its.length c) 50 7 its.length (its.flatMap ittC)
/-- An outbox behind a pointer. -/
def oR (go gt gl ge : Nat) (vs : List Value) (A : Option Addr) (c : Nat) (its : List Itt) : Res := sep (sep (oB go gt (.slice A its.length c)) (oV A c its)) (treeR gt gl ge 32 vs (lvOf dNode e0 32 (lsO its)))
structure OxS (w : World) (go gt gl ge : Nat) (vs : List Value) (A : Option Addr) (c : Nat) (its : List Itt) : Prop where
  c0 : w.cell? ⟨go, 0, none⟩ = some (.slice A its.length c)
  c1 : w.cell? ⟨go, 1, none⟩ = some (.pointer (some ⟨gt, 0, none⟩))
  rd : Rd w A (its.flatMap ittC)
  tr : TreeS w gt gl ge 32 vs (lvOf dNode e0 32 (lsO its))
  cap : its.length ≤ c
theorem OxS.of {w : World} {go gt gl ge : Nat} {vs : List Value} {A : Option Addr} {c : Nat} {its : List Itt} (h : (oR go gt gl ge vs A c its).sat w) : OxS w go gt gl ge vs A c its :=
  ⟨blk_cell (l := [.slice A its.length c, .pointer (some ⟨gt, 0, none⟩)]) h.1.1 rfl, blk_cell (l := [.slice A its.length c, .pointer (some ⟨gt, 0, none⟩)]) h.1.1 rfl, rd_of_own h.1.2.1, TreeS.of h.2.1 (lvOf_len _ _), own_cap h.1.2.1⟩
theorem OxS.keep {w w' : World} {go gt gl ge : Nat} {vs : List Value} {A : Option Addr} {c : Nat} {its : List Itt} (h : OxS w go gt gl ge vs A c its) (k : Keep nof w w') : OxS w' go gt gl ge vs A c its :=
  ⟨k.cell h.c0 (fun f => f), k.cell h.c1 (fun f => f), h.rd.keep0 k, h.tr.keep k, h.cap⟩
/-- What is told of one more. -/
def nxI (x : Itt) : Itt × Int := if mayI x then (x, 0) else (itt0, 6)
theorem nxI_ok {x : Itt} (h : IttOk x) : IttOk (nxI x).1 := by
  unfold nxI
  split
  · exact h
  · exact itt0_ok
def adI (its : List Itt) (x : Itt) : Int := if ¬ mayI x then 6 else if x.ix ≠ its.length then 11 else 0
def adL (its : List Itt) (x : Itt) : List Itt := if adI its x = 0 then its ++ [x] else its
theorem ad_6 {its : List Itt} {x : Itt} (h : ¬ mayI x) : adI its x = 6 ∧ adL its x = its := by
  have e : adI its x = 6 := if_pos h
  exact ⟨e, by rw [adL, e]; rfl⟩
theorem ad_11 {its : List Itt} {x : Itt} (h : mayI x) (hx : x.ix ≠ its.length) : adI its x = 11 ∧ adL its x = its := by
  have e : adI its x = 11 := by rw [adI, if_neg (not_not_intro h), if_pos hx]
  exact ⟨e, by rw [adL, e]; rfl⟩
theorem ad_0 {its : List Itt} {x : Itt} (h : mayI x) (hx : x.ix = its.length) : adI its x = 0 ∧ adL its x = its ++ [x] := by
  have e : adI its x = 0 := by rw [adI, if_neg (not_not_intro h), if_neg (not_not_intro hx)]
  exact ⟨e, if_pos e⟩
theorem its_len {its : List Itt} (h : ∀ t ∈ its, IttOk t) : (its.flatMap ittC).length = its.length * 7 := by
  induction its with
  | nil => rfl
  | cons a l ih =>
    rw [List.flatMap_cons, List.length_append, itt_len (h a (by simp)), ih fun t ht => h t (by simp [ht]), List.length_cons]
    omega
theorem its_one (its : List Itt) : ∀ u ∈ its.flatMap ittC, u.oneCell' = true := by
  intro u hu
  obtain ⟨t, _, h⟩ := List.mem_flatMap.1 hu
  exact itt_one u h
theorem its_take : ∀ {its : List Itt}, (∀ t ∈ its, IttOk t) → ∀ n, (its.take n).flatMap ittC = (its.flatMap ittC).take (n * 7)
  | [], _, n => by simp
  | a :: l, h, 0 => by simp
  | a :: l, h, n + 1 => by
    have ha := itt_len (h a (by simp))
    rw [List.take_succ_cons, List.flatMap_cons, List.flatMap_cons, its_take (fun t ht => h t (by simp [ht])) n, List.take_append, ha, show (n + 1) * 7 - 7 = n * 7 by omega, List.take_of_length_le (l := ittC a) (by omega)]

/- (*sponsion/outbox.Outbox).Len -/
theorem oLen_ok (w : World) (go gt gl ge : Nat) (vs : List Value) (A : Option Addr) (c : Nat) (its : List Itt) (hO : OxS w go gt gl ge vs A c its) (hl : its.length ≤ 1000) :
    Gives Tryd.prog 25 #[.pointer (some ⟨go, 0, none⟩)] w fun u w1 => u = .int .u64 (its.length : Int) ∧ Keep nof w w1 := by
  have M0 := Mem.start w nof
  refine Gives.enter (n := 9) Tryd.func25 rfl Tryd.ntmps25 rfl (env := [(0, .pointer (some ⟨go, 0, none⟩))]) rfl ?_
  refine WC.seq ?_
  refine WC.region ?_
  refine WL.ex rfl rfl rfl (Ex.asg rfl) ?_
  refine WL.nil ?_
  refine WX.next (?_)
  refine WC.seq ?_
  refine WC.region ?_
  refine WL.ex rfl rfl rfl (Ex.mv rfl) ?_
  refine WL.ex rfl rfl rfl (Ex.nilc rfl) ?_
  refine WL.ex rfl rfl rfl (Ex.fa fl93_0 rfl) ?_
  refine WL.ex rfl rfl rfl (Ex.load ty27 rfl (hO.keep M0.keep).c0) ?_
  refine WL.ex rfl rfl rfl (Ex.len Tryd.underlying27 rfl) ?_
  refine WL.ex rfl rfl rfl (Ex.cvI Tryd.underlying3 Tryd.underlying23 rfl (u64w_lt _ (by omega))) ?_
  refine WL.ex rfl rfl rfl (Ex.asg rfl) ?_
  refine WL.nil ?_
  refine WX.next (?_)
  refine WC.ret ?_
  refine WX.ret1 rfl rfl ?_
  exact ⟨rfl, M0.keep⟩

/- (*sponsion/outbox.Outbox).Next -/
theorem oNext_ok (w : World) (go gt gl ge : Nat) (vs : List Value) (A : Option Addr) (c : Nat) (its : List Itt) (tk ow : Nat) (am : List Nat) (hO : OxS w go gt gl ge vs A c its) (hl : its.length ≤ 1000) (htk : tk < 256) (how : ow < 256) (ham : Int4 am) :
    Gives Tryd.prog 23 #[.pointer (some ⟨go, 0, none⟩), .int .u8 (tk : Int), .int .u8 (ow : Int), .agg (intV am).toArray] w fun u w1 => u = .tuple #[.agg (ittC (nxI ⟨its.length, tk, ow, am⟩).1).toArray, .int .i64 (nxI ⟨its.length, tk, ow, am⟩).2] ∧ Keep nof w w1 := by
  have M0 := Mem.start w nof
  obtain ⟨X, hX⟩ : ∃ X : Itt, X = ⟨its.length, tk, ow, am⟩ := ⟨_, rfl⟩
  have hXo : IttOk X := by rw [hX]; exact ⟨by show its.length < 4294967296; omega, htk, how, ham⟩
  rw [← hX]
  refine Gives.enter (n := 30) Tryd.func23 rfl Tryd.ntmps23 rfl (env := [(0, .pointer (some ⟨go, 0, none⟩)), (1, .int .u8 (tk : Int)), (2, .int .u8 (ow : Int)), (3, .agg (intV am).toArray)]) rfl ?_
  refine WC.seq ?_
  refine WC.region ?_
  refine WL.ac rfl rfl rfl (Ac.box M0 rfl rfl) ?_; rintro v1 w1 ⟨ga, rfl, hg1, K1, M1⟩
  refine WL.ac rfl rfl rfl (Ac.alloc M1 (l := ittC itt0) (by kernel_rfl)) ?_; rintro v2 w2 ⟨gr, rfl, hg2, K2, M2⟩
  refine WL.ex rfl rfl rfl (Ex.asg rfl) ?_
  refine WL.nil ?_
  refine WX.next (?_)
  refine WC.seq ?_
  refine WC.seq ?_
  refine WC.region ?_
  refine WL.ex rfl rfl rfl (Ex.mv rfl) ?_
  refine WL.ac rfl rfl rfl (Ac.call rfl Tryd.func25 nm25 rfl (oLen_ok w2 go gt gl ge vs A c its (hO.keep M2.keep) (by omega))) ?_; rintro v5 w5 ⟨rfl, K5⟩
  have M5 := M2.step K5
  refine WL.ex rfl rfl rfl (Ex.gtr rfl rfl) ?_
  refine WL.nil ?_
  refine WX.next (?_)
  refine WC.cond_dec rfl (fun hc14 => ?_) (fun hc14 => ?_)
  · exfalso; omega
  · skip
    refine WC.skip ?_
    refine WX.next (?_)
    refine WC.seq ?_
    refine WC.draw (Keep nof w5.drew) [8] (.one 0 0 (.one 3 0 (.one 4 0 (.one 5 1 (.two 1 (.one 2 0 (.one 6 0 (.one 7 2 (.one 8 2 .nil)))) 7 (.one 1 2 (.one 2 0 (.one 6 0 (.one 8 2 .nil))))))))) mixed (by kernel_rfl) (by kernel_rfl) (by kernel_rfl) (HQ.then_ HQ.body) ?_
    obtain ⟨w7, hw7⟩ : ∃ v, v = w5.drew := ⟨_, rfl⟩
    have D7 : Keep nof w5 w7 := by rw [hw7]; exact Keep.drew _ _
    have M7 := M5.step D7
    rw [← hw7]; clear hw7
    refine WP.p rfl rfl rfl rfl (fun _ => Ex.mv rfl) ?_
    refine WP.p rfl rfl rfl rfl (fun _ => Ex.mv rfl) ?_
    refine WP.p rfl rfl rfl rfl (fun _ => Ex.mv rfl) ?_
    refine WP.q (Keep.refl _ _) rfl rfl rfl rfl (fun w' hS => Ex.loadA ty48 rfl (int4_len (by first | assumption | exact int4_0)) ((M7.rdw (i := 1) rfl).keep0 hS)) ?_
    refine WP.two ?_ ?_
    · skip
      refine WP.as rfl rfl rfl rfl (Ac.call rfl Tryd.func25 nm25 rfl (oLen_ok w7 go gt gl ge vs A c its (hO.keep M7.keep) (by omega))) ?_; rintro v12 w12 ⟨rfl, K12⟩
      refine ⟨Keep nof w12, fun u h => K12.trans h, Keep.refl _ _, ?_⟩
      have M12 := M7.step K12
      refine WP.p rfl rfl rfl rfl (fun _ => Ex.cvI Tryd.underlying23 Tryd.underlying46 rfl (u32w_lt _ (by omega))) ?_
      refine WP.p rfl rfl rfl rfl (fun _ => Ex.bldS bd50 (parts := [(0, .tmp 18), (1, .tmp 19), (2, .tmp 20), (3, .tmp 21)]) _ rfl rfl rfl (bldItt (ix := its.length) (tk := tk) (ow := ow) (am := am) ham.1)) ?_
      rw [← hX]
      refine WP.as rfl rfl rfl rfl (Ac.alloc M12 (l := ittC itt0) (by kernel_rfl)) ?_; rintro v15 w15 ⟨gx, rfl, hg15, K15, M15⟩
      refine ⟨Keep nof w15, fun u h => K15.trans h, Keep.refl _ _, ?_⟩
      refine WP.a0 rfl rfl rfl (Ac.stA M15 ty50 rfl rfl (vs := ittC X) rfl (itt_len hXo) itt_one (i := 0) rfl (by rw [itt_len hXo, itt_len itt0_ok]; decide)) ?_; rintro v16 w16 ⟨K16, M16⟩; refine .inl ⟨rfl, Keep nof w16, ?_⟩
      try dsimp only [List.set] at M16
      rw [splice_all _ _ (by rw [itt_len hXo, itt_len itt0_ok])] at M16
      refine WP.nil ?_
      refine WX.next (?_)
      refine WC.seq ?_
      refine WC.seq ?_
      refine WC.region ?_
      refine WL.ex rfl rfl rfl (Ex.loadA ty50 rfl (l := ittC X) (itt_len hXo) (M16.rdw (i := 0) rfl)) ?_
      refine WL.ac rfl rfl rfl (Ac.call rfl Tryd.func53 nm53 rfl (iCheck_ok w16 X hXo)) ?_; rintro v18 w18 ⟨rfl, K18⟩
      have M18 := M16.step K18
      by_cases hm : mayI X
      · rw [if_pos hm]
        have he : nxI X = (X, 0) := if_pos hm
        refine WL.ex rfl rfl rfl (Ex.asg rfl) ?_
        refine WL.nil ?_
        refine WX.next (?_)
        refine WC.seq ?_
        refine WC.region ?_
        refine WL.ex rfl rfl rfl (Ex.mv rfl) ?_
        refine WL.ex rfl rfl rfl (Ex.neI rfl rfl) ?_
        rw [show (!decide ((0 : Int) = 0)) = false from rfl]
        refine WL.nil ?_
        refine WX.next (?_)
        refine WC.no rfl ?_
        refine WC.skip ?_
        refine WX.next (?_)
        refine WC.seq ?_
        refine WC.region ?_
        refine WL.ex rfl rfl rfl (Ex.loadA ty50 rfl (l := ittC X) (itt_len hXo) (M18.rdw (i := 0) rfl)) ?_
        refine WL.ac0 rfl rfl (Ac.stA M18 ty50 rfl rfl (vs := ittC X) rfl (itt_len hXo) itt_one (i := 1) rfl (by rw [itt_len hXo, itt_len itt0_ok]; decide)) ?_; rintro v23 w23 ⟨K23, M23⟩
        try dsimp only [List.set] at M23
        rw [splice_all _ _ (by rw [itt_len hXo, itt_len itt0_ok])] at M23
        refine WL.ex rfl rfl rfl (Ex.asg rfl) ?_
        refine WL.nil ?_
        refine WX.next (?_)
        refine WC.ret ?_
        refine WX.retn rfl (.cell rfl (run_loadVarA ty50 (by first | exact itt_len hXo | exact itt_len itt0_ok) (M23.rdw (i := 1) rfl)) (.tmp rfl .nil)) rfl ?_
        rw [he]
        exact ⟨rfl, M23.keep⟩
      · rw [if_neg hm]
        have he : nxI X = (itt0, 6) := if_neg hm
        refine WL.ex rfl rfl rfl (Ex.asg rfl) ?_
        refine WL.nil ?_
        refine WX.next (?_)
        refine WC.seq ?_
        refine WC.region ?_
        refine WL.ex rfl rfl rfl (Ex.mv rfl) ?_
        refine WL.ex rfl rfl rfl (Ex.neI rfl rfl) ?_
        rw [show (!decide ((6 : Int) = 0)) = true from rfl]
        refine WL.nil ?_
        refine WX.next (?_)
        refine WC.yes rfl ?_
        refine WC.seq ?_
        refine WC.region ?_
        refine WL.ex rfl rfl rfl (Ex.bld bd50 (parts := []) (l := ittC itt0) rfl rfl rfl rfl) ?_
        refine WL.ex rfl rfl rfl (Ex.mv rfl) ?_
        refine WL.ac0 rfl rfl (Ac.stA M18 ty50 rfl rfl (vs := ittC itt0) rfl (itt_len itt0_ok) itt_one (i := 1) rfl (by decide)) ?_; rintro v30 w30 ⟨K30, M30⟩
        try dsimp only [List.set] at M30
        rw [splice_all _ _ rfl] at M30
        refine WL.ex rfl rfl rfl (Ex.asg rfl) ?_
        refine WL.nil ?_
        refine WX.next (?_)
        refine WC.ret ?_
        refine WX.ret_then (?_)
        refine WX.retn rfl (.cell rfl (run_loadVarA ty50 (by first | exact itt_len hXo | exact itt_len itt0_ok) (M30.rdw (i := 1) rfl)) (.tmp rfl .nil)) rfl ?_
        rw [he]
        exact ⟨rfl, M30.keep⟩
    · skip
      refine WP.as rfl rfl rfl rfl (Ac.alloc M7 (l := ittC itt0) (by kernel_rfl)) ?_; rintro v32 w32 ⟨gx, rfl, hg32, K32, M32⟩
      refine ⟨Keep nof w32, fun u h => K32.trans h, Keep.refl _ _, ?_⟩
      refine WP.as rfl rfl rfl rfl (Ac.call rfl Tryd.func25 nm25 rfl (oLen_ok w32 go gt gl ge vs A c its (hO.keep M32.keep) (by omega))) ?_; rintro v33 w33 ⟨rfl, K33⟩
      refine ⟨Keep nof w33, fun u h => K33.trans h, Keep.refl _ _, ?_⟩
      have M33 := M32.step K33
      refine WP.p rfl rfl rfl rfl (fun _ => Ex.cvI Tryd.underlying23 Tryd.underlying46 rfl (u32w_lt _ (by omega))) ?_
      refine WP.p rfl rfl rfl rfl (fun _ => Ex.bldS bd50 (parts := [(0, .tmp 18), (1, .tmp 19), (2, .tmp 20), (3, .tmp 21)]) _ rfl rfl rfl (bldItt (ix := its.length) (tk := tk) (ow := ow) (am := am) ham.1)) ?_
      rw [← hX]
      refine WP.a0 rfl rfl rfl (Ac.stA M33 ty50 rfl rfl (vs := ittC X) rfl (itt_len hXo) itt_one (i := 0) rfl (by rw [itt_len hXo, itt_len itt0_ok]; decide)) ?_; rintro v36 w36 ⟨K36, M36⟩; refine .inl ⟨rfl, Keep nof w36, ?_⟩
      try dsimp only [List.set] at M36
      rw [splice_all _ _ (by rw [itt_len hXo, itt_len itt0_ok])] at M36
      refine WP.nil ?_
      refine WX.next (?_)
      refine WC.seq ?_
      refine WC.seq ?_
      refine WC.region ?_
      refine WL.ex rfl rfl rfl (Ex.loadA ty50 rfl (l := ittC X) (itt_len hXo) (M36.rdw (i := 0) rfl)) ?_
      refine WL.ac rfl rfl rfl (Ac.call rfl Tryd.func53 nm53 rfl (iCheck_ok w36 X hXo)) ?_; rintro v38 w38 ⟨rfl, K38⟩
      have M38 := M36.step K38
      by_cases hm : mayI X
      · rw [if_pos hm]
        have he : nxI X = (X, 0) := if_pos hm
        refine WL.ex rfl rfl rfl (Ex.asg rfl) ?_
        refine WL.nil ?_
        refine WX.next (?_)
        refine WC.seq ?_
        refine WC.region ?_
        refine WL.ex rfl rfl rfl (Ex.mv rfl) ?_
        refine WL.ex rfl rfl rfl (Ex.neI rfl rfl) ?_
        rw [show (!decide ((0 : Int) = 0)) = false from rfl]
        refine WL.nil ?_
        refine WX.next (?_)
        refine WC.no rfl ?_
        refine WC.skip ?_
        refine WX.next (?_)
        refine WC.seq ?_
        refine WC.region ?_
        refine WL.ex rfl rfl rfl (Ex.loadA ty50 rfl (l := ittC X) (itt_len hXo) (M38.rdw (i := 0) rfl)) ?_
        refine WL.ac0 rfl rfl (Ac.stA M38 ty50 rfl rfl (vs := ittC X) rfl (itt_len hXo) itt_one (i := 1) rfl (by rw [itt_len hXo, itt_len itt0_ok]; decide)) ?_; rintro v43 w43 ⟨K43, M43⟩
        try dsimp only [List.set] at M43
        rw [splice_all _ _ (by rw [itt_len hXo, itt_len itt0_ok])] at M43
        refine WL.ex rfl rfl rfl (Ex.asg rfl) ?_
        refine WL.nil ?_
        refine WX.next (?_)
        refine WC.ret ?_
        refine WX.retn rfl (.cell rfl (run_loadVarA ty50 (by first | exact itt_len hXo | exact itt_len itt0_ok) (M43.rdw (i := 1) rfl)) (.tmp rfl .nil)) rfl ?_
        rw [he]
        exact ⟨rfl, M43.keep⟩
      · rw [if_neg hm]
        have he : nxI X = (itt0, 6) := if_neg hm
        refine WL.ex rfl rfl rfl (Ex.asg rfl) ?_
        refine WL.nil ?_
        refine WX.next (?_)
        refine WC.seq ?_
        refine WC.region ?_
        refine WL.ex rfl rfl rfl (Ex.mv rfl) ?_
        refine WL.ex rfl rfl rfl (Ex.neI rfl rfl) ?_
        rw [show (!decide ((6 : Int) = 0)) = true from rfl]
        refine WL.nil ?_
        refine WX.next (?_)
        refine WC.yes rfl ?_
        refine WC.seq ?_
        refine WC.region ?_
        refine WL.ex rfl rfl rfl (Ex.bld bd50 (parts := []) (l := ittC itt0) rfl rfl rfl rfl) ?_
        refine WL.ex rfl rfl rfl (Ex.mv rfl) ?_
        refine WL.ac0 rfl rfl (Ac.stA M38 ty50 rfl rfl (vs := ittC itt0) rfl (itt_len itt0_ok) itt_one (i := 1) rfl (by decide)) ?_; rintro v50 w50 ⟨K50, M50⟩
        try dsimp only [List.set] at M50
        rw [splice_all _ _ rfl] at M50
        refine WL.ex rfl rfl rfl (Ex.asg rfl) ?_
        refine WL.nil ?_
        refine WX.next (?_)
        refine WC.ret ?_
        refine WX.ret_then (?_)
        refine WX.retn rfl (.cell rfl (run_loadVarA ty50 (by first | exact itt_len hXo | exact itt_len itt0_ok) (M50.rdw (i := 1) rfl)) (.tmp rfl .nil)) rfl ?_
        rw [he]
        exact ⟨rfl, M50.keep⟩
  -- UNUSED HINTS ['2.0', '2.1']

/- (*sponsion/outbox.Outbox).Add -/
theorem oAdd_ok (w : World) (go gt gl ge : Nat) (vs : List Value) (A : Option Addr) (c : Nat) (its : List Itt) (x : Itt) (hR : (oR go gt gl ge vs A c its).sat w) (hx : IttOk x) (hok : ∀ t ∈ its, IttOk t) (hl : its.length ≤ 1000) (hT : Tabs w) (hFT : ∀ b ∈ (oR go gt gl ge vs A c its).fp, b ≠ 1 ∧ b ≠ 2) :
    Gives Tryd.prog 24 #[.pointer (some ⟨go, 0, none⟩), .agg (ittC x).toArray] w fun u w1 => ∃ vs' A' c', u = .int .i64 (adI its x) ∧ Turn w w1 (oR go gt gl ge vs A c its) (oR go gt gl ge vs' A' c' (adL its x)) := by
  have hO := OxS.of hR
  obtain ⟨FF, hFF⟩ : ∃ FF : Nat → Prop, FF = (fun b => b ∈ (oR go gt gl ge vs A c its).fp) := ⟨_, rfl⟩
  have M0 : Mem w w FF [oR go gt gl ge vs A c its] := by rw [hFF]; exact Mem.begin hR
  replace M0 := M0.openS.openS
  have hFT3 : ∀ b ∈ (treeR gt gl ge 32 vs (lvOf dNode e0 32 (lsO its))).fp, b ≠ 1 ∧ b ≠ 2 := fun b hb => hFT b (List.mem_append.2 (.inr hb))
  refine Gives.enter (n := 34) Tryd.func24 rfl Tryd.ntmps24 rfl (env := [(0, .pointer (some ⟨go, 0, none⟩)), (1, .agg (ittC x).toArray)]) rfl ?_
  refine WC.seq ?_
  refine WC.region ?_
  refine WL.ac rfl rfl rfl (Ac.box M0 (l := ittC x) rfl rfl) ?_; rintro v1 w1 ⟨gx, rfl, hg1, K1, M1⟩
  refine WL.ex rfl rfl rfl (Ex.asg rfl) ?_
  refine WL.nil ?_
  refine WX.next (?_)
  refine WC.seq ?_
  refine WC.seq ?_
  refine WC.region ?_
  refine WL.ex rfl rfl rfl (Ex.loadA ty50 rfl (l := ittC x) (itt_len hx) (M1.rdw (i := 0) rfl)) ?_
  refine WL.ac rfl rfl rfl (Ac.call rfl Tryd.func53 nm53 rfl (iCheck_ok w1 x hx)) ?_; rintro v4 w4 ⟨rfl, K4⟩
  have M4 := M1.step K4
  by_cases hm : mayI x
  · rw [if_pos hm]
    refine WL.ex rfl rfl rfl (Ex.asg rfl) ?_
    refine WL.nil ?_
    refine WX.next (?_)
    refine WC.seq ?_
    refine WC.region ?_
    refine WL.ex rfl rfl rfl (Ex.mv rfl) ?_
    refine WL.ex rfl rfl rfl (Ex.neI rfl rfl) ?_
    rw [show (!decide ((0 : Int) = 0)) = false from rfl]
    refine WL.nil ?_
    refine WX.next (?_)
    refine WC.no rfl ?_
    refine WC.skip ?_
    refine WX.next (?_)
    refine WC.seq ?_
    refine WC.seq ?_
    refine WC.draw (Keep nof w4.drew) [] (.one 0 0 (.one 3 0 (.one 1 1 (.one 2 0 (.one 4 2 (.one 5 0 .nil)))))) mixed (by kernel_rfl) (by kernel_rfl) (by kernel_rfl) (HQ.then_ (HQ.then_ HQ.body)) ?_
    obtain ⟨w8, hw8⟩ : ∃ v, v = w4.drew := ⟨_, rfl⟩
    have D8 : Keep nof w4 w8 := by rw [hw8]; exact Keep.drew _ _
    have M8 := M4.step D8
    rw [← hw8]; clear hw8
    refine WP.p rfl rfl rfl rfl (fun _ => Ex.fa fl50_0 rfl) ?_
    refine WP.p rfl rfl rfl rfl (fun _ => Ex.mv rfl) ?_
    refine WP.q (Keep.refl _ _) rfl rfl rfl rfl (fun w' hS => Ex.load ty46 rfl (hS.cell (M8.cell (i := 0) (v := .int .u32 (x.ix : Int)) rfl (itt_g0 hx)) (fun f => f))) ?_
    refine WP.p rfl rfl rfl rfl (fun _ => Ex.cvI Tryd.underlying46 Tryd.underlying23 rfl (u64w_lt _ (by have := hx.ix; omega))) ?_
    refine WP.as rfl rfl rfl rfl (Ac.call rfl Tryd.func25 nm25 rfl (oLen_ok w8 go gt gl ge vs A c its ⟨M8.cell (i := 1) rfl rfl, M8.cell (i := 1) rfl rfl, M8.rdr (i := 2) rfl, TreeS.of (M8.get (i := 3) rfl) (lvOf_len _ _), own_cap (M8.get (i := 2) rfl)⟩ (by omega))) ?_; rintro v13 w13 ⟨rfl, K13⟩
    refine ⟨Keep nof w13, fun u h => K13.trans h, Keep.refl _ _, ?_⟩
    have M13 := M8.step K13
    refine WP.p rfl rfl rfl rfl (fun _ => Ex.neI rfl rfl) ?_
    refine WP.nil ?_
    refine WX.next (?_)
    refine WC.cond rfl (fun h16 => ?_) (fun h16 => ?_)
    · have h17 : ¬ (x.ix : Int) = its.length := by simpa using h16
      obtain ⟨he, hel⟩ := ad_11 (its := its) hm (by omega)
      refine WC.seq ?_
      refine WC.region ?_
      refine WL.ex rfl rfl rfl (Ex.asg rfl) ?_
      refine WL.nil ?_
      refine WX.next (?_)
      refine WC.ret ?_
      refine WX.ret_then (?_)
      refine WX.ret1 rfl rfl ?_
      rw [he, hel]
      subst hFF
      exact ⟨_, _, _, rfl, Mem.toTurn (Mem.closeS (Mem.closeS (Mem.sub M13 (.cons _ (.refl _)))))⟩
    · have h17 : (x.ix : Int) = its.length := by simpa using h16
      obtain ⟨he, hel⟩ := ad_0 (its := its) hm (by omega)
      refine WC.skip ?_
      refine WX.next (?_)
      refine WC.seq ?_
      have D16 := Keep.drew nof w13
      have M16 := M13.step D16
      refine WC.draw (Keep (FP M16 [2]) w13.drew) [10] (.one 0 0 (.one 1 0 (.one 2 0 (.one 3 0 (.one 4 1 (.one 5 1 (.one 6 2 (.one 7 2 (.one 8 0 (.one 9 0 (.one 10 2 .nil))))))))))) mixed (by kernel_rfl) (by kernel_rfl) (by kernel_rfl) (HQ.then_ HQ.body) ?_
      revert D16 M16; generalize w13.drew = w16; intro D16 M16
      have B16 : Mem w16 w16 (FP M16 [2]) [_] := M16.base [2] (by decide)
      refine WP.p rfl rfl rfl rfl (fun _ => Ex.mv rfl) ?_
      refine WP.p rfl rfl rfl rfl (fun _ => Ex.mv rfl) ?_
      refine WP.p rfl rfl rfl rfl (fun _ => Ex.nilc rfl) ?_
      refine WP.p rfl rfl rfl rfl (fun _ => Ex.fa fl93_0 rfl) ?_
      refine WP.q B16.keep rfl rfl rfl rfl (fun w' hS => Ex.load ty27 rfl (M16.fp_cell (j := 1) (v := .slice A its.length c) hS rfl rfl rfl)) ?_
      refine WP.q B16.keep rfl rfl rfl rfl (fun w' hS => Ex.loadA ty50 rfl (l := ittC x) (itt_len hx) (M16.fp_rdw (j := 0) hS rfl rfl)) ?_
      refine WP.a rfl rfl rfl rfl (Ac.bs M16 (parts := [(0, .tmp 22)]) rfl rfl (LitS.agg1 el27 rfl (itt_len hx) (by decide))) ?_; rintro v23 w23 ⟨gs, rfl, hg23, K23, M23⟩
      have B23 := B16.step K23
      refine .inr ⟨fun _ => B23.keep, ?_⟩
      refine WP.a rfl rfl rfl rfl (Ac.appT el27 (M23.get (i := 3) rfl) rfl rfl (by rw [itt_len hx]) (M23.rdw (i := 0) rfl) itt_one (by omega) (by unfold maxLen; omega)) ?_; rintro v24 w24 T24
      have B24 := B23.turned (i := 0) rfl T24
      refine .inr ⟨fun _ => B24.keep, ?_⟩
      have M24 := M23.turned (i := 3) rfl T24
      try dsimp only [List.set] at M24
      rw [show its.flatMap ittC ++ ittC x = (its ++ [x]).flatMap ittC by simp, show its.length + 1 = (its ++ [x]).length by simp] at M24
      obtain ⟨A1, c1, rfl⟩ := own_slice (M24.get (i := 3) rfl)
      refine WP.p rfl rfl rfl rfl (fun _ => Ex.nilc rfl) ?_
      refine WP.p rfl rfl rfl rfl (fun _ => Ex.fa fl93_0 rfl) ?_
      refine WP.a0 rfl rfl rfl (Ac.st M24 ty27 rfl rfl rfl (i := 2) rfl (by simp)) ?_; rintro v27 w27 ⟨K27, M27⟩; refine .inl ⟨rfl, Keep nof w27, ?_⟩
      try dsimp only [List.set] at M27
      refine WP.nil ?_
      refine WX.next (?_)
      refine WC.seq ?_
      have D28 := Keep.drew nof w27
      have M28 := M27.step D28
      refine WC.draw (Keep (FP M28 [4]) w27.drew) [] (.one 0 0 (.one 1 0 (.one 2 0 (.one 3 1 (.one 4 1 (.one 5 2 (.one 6 2 .nil))))))) mixed (by kernel_rfl) (by kernel_rfl) (by kernel_rfl) (HQ.then_ HQ.body) ?_
      revert D28 M28; generalize w27.drew = w28; intro D28 M28
      have B28 : Mem w28 w28 (FP M28 [4]) [_] := M28.base [4] (by decide)
      refine WP.p rfl rfl rfl rfl (fun _ => Ex.mv rfl) ?_
      refine WP.p rfl rfl rfl rfl (fun _ => Ex.nilc rfl) ?_
      refine WP.p rfl rfl rfl rfl (fun _ => Ex.fa fl93_1 rfl) ?_
      refine WP.q B28.keep rfl rfl rfl rfl (fun w' hS => Ex.load ty68 rfl (M28.fp_cell (j := 2) (v := .pointer (some ⟨gt, 0, none⟩)) hS rfl rfl rfl)) ?_
      refine WP.q B28.keep rfl rfl rfl rfl (fun w' hS => Ex.loadA ty50 rfl (l := ittC x) (itt_len hx) (M28.fp_rdw (j := 1) hS rfl rfl)) ?_
      refine WP.a rfl rfl rfl rfl (Ac.call rfl Tryd.func27 nm27 rfl (iLeaf_ok w28 x hx (by have k := M28.keep; rw [hFF] at k; exact hT.keepF k hFT))) ?_; rintro v34 w34 ⟨rfl, K34⟩
      have B34 := B28.step K34
      refine .inr ⟨fun _ => B34.keep, ?_⟩
      have M34 := M28.step K34
      refine WP.a rfl rfl rfl rfl (Ac.call rfl Tryd.func54 nm54 rfl (tAppend_ok w34 gt gl ge 32 vs (lsO its) (iLeaf x) (M34.get (i := 4) rfl) (lsO32 its) (iLeaf_len x) (by decide) (by have k := M34.keep; rw [hFF] at k; exact hT.keepF k hFT) hFT3)) ?_; rintro v35 w35 ⟨vs1, rfl, T35⟩
      have B35 := B34.turned (i := 0) rfl T35
      refine .inr ⟨fun _ => B35.keep, ?_⟩
      rw [tApp_c (by rw [lsO_len]; omega), show lsO its ++ [iLeaf x] = lsO (its ++ [x]) by simp] at T35
      have M35 := M34.turned (i := 4) rfl T35
      try dsimp only [List.set] at M35
      refine WP.nil ?_
      refine WX.next (?_)
      refine WC.seq ?_
      refine WC.region ?_
      refine WL.ex rfl rfl rfl (Ex.asg rfl) ?_
      refine WL.nil ?_
      refine WX.next (?_)
      refine WC.ret ?_
      refine WX.ret1 rfl rfl ?_
      rw [he, hel]
      subst hFF
      exact ⟨_, _, _, rfl, Mem.toTurn (Mem.closeS (Mem.closeS (Mem.sub M35 (.cons _ (.cons _ (.refl _))))))⟩
  · rw [if_neg hm]
    obtain ⟨he, hel⟩ := ad_6 (its := its) hm
    refine WL.ex rfl rfl rfl (Ex.asg rfl) ?_
    refine WL.nil ?_
    refine WX.next (?_)
    refine WC.seq ?_
    refine WC.region ?_
    refine WL.ex rfl rfl rfl (Ex.mv rfl) ?_
    refine WL.ex rfl rfl rfl (Ex.neI rfl rfl) ?_
    rw [show (!decide ((6 : Int) = 0)) = true from rfl]
    refine WL.nil ?_
    refine WX.next (?_)
    refine WC.yes rfl ?_
    refine WC.seq ?_
    refine WC.region ?_
    refine WL.ex rfl rfl rfl (Ex.mv rfl) ?_
    refine WL.ex rfl rfl rfl (Ex.asg rfl) ?_
    refine WL.nil ?_
    refine WX.next (?_)
    refine WC.ret ?_
    refine WX.ret_then (?_)
    refine WX.ret1 rfl rfl ?_
    rw [he, hel]
    subst hFF
    exact ⟨_, _, _, rfl, Mem.toTurn (Mem.closeS (Mem.closeS (Mem.sub M4 (.cons _ (.refl _)))))⟩

end Go.Proofs.YtchmjpdkonfifaaDoor
