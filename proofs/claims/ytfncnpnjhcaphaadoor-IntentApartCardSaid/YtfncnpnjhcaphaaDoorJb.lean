/- Walks, written by gen.py off the translation's own print: each says what the Go function comes to. -/
import Derived.Test.YtfncnpnjhcaphaaDoorJa
set_option linter.unusedVariables false
set_option linter.unusedSimpArgs false
namespace Go.Proofs.YtfncnpnjhcaphaaDoor
open Go.Sx Go.RowKit
attribute [local irreducible] Ac Ex WL WC WX WP Gives sha

theorem iGet_app {A B C D L : List UInt8} (hA : A.length = 4) (hB : B.length = 1) (hC : C.length = 1) (hD : D.length = 32) :
    iGet (A ++ (B ++ (C ++ (D ++ L))), 0) = if mayI ⟨beVal A, beVal B, beVal C, ofB D⟩ then (⟨beVal A, beVal B, beVal C, ofB D⟩, (L, 0)) else (itt0, ([], 6)) := by
  obtain ⟨h1, h2⟩ := take38 (L := L) hA hB hC hD
  rw [iGet, if_pos ⟨rfl, by simp [hA, hB, hC, hD]; omega⟩]
  simp only [h1, h2, ittOf_app hA hB hC]
theorem iGet_short {s : RS} (h : ¬ (s.2 = 0 ∧ 38 ≤ s.1.length)) : iGet s = (itt0, rFail s 4) := by rw [iGet, if_neg h]
theorem may_or (t : Itt) : (if mayI t then (0 : Int) else 6) = 0 ↔ mayI t := by split <;> simp_all

/- sponsion/intent.Put -/
theorem iPut_ok (w : World) (g : Nat) (v : Value) (l : List UInt8) (t : Itt) (h : (wrR g v l).sat w) (ht : IttOk t) (hb : l.length ≤ 17592186044416) :
    Gives Tryd.prog 53 #[.pointer (some ⟨g, 0, none⟩), .agg (ittC t).toArray] w fun _ w1 => ∃ v1, Turn w w1 (wrR g v l) (wrR g v1 (l ++ ittB t)) := by
  have M0 := Mem.begin h
  have htx := ht.ix
  have htt := ht.tk
  have hto := ht.ow
  have hta := ht.am
  refine Gives.enter (n := 17) Tryd.func53 rfl Tryd.ntmps53 rfl (env := [(0, .pointer (some ⟨g, 0, none⟩)), (1, .agg (ittC t).toArray)]) rfl ?_
  refine WC.seq ?_
  refine WC.region ?_
  refine WL.ac rfl rfl rfl (Ac.box M0 (l := ittC t) rfl rfl) ?_; rintro v1 w1 ⟨gi, rfl, hg1, K1, M1⟩
  refine WL.nil ?_
  refine WX.next (?_)
  have hne : gi ∉ (wrR g v l).fp := M1.apart (i := 0) (j := 1) rfl rfl (by decide) _ (by simp [blk])
  refine WC.draw (Keep (· ∈ (wrR g v l).fp) w1.drew) [] (.one 0 0 (.one 1 0 (.one 4 0 (.one 7 0 (.one 10 0 (.one 2 1 (.one 5 1 (.one 8 1 (.one 11 1 (.one 3 2 (.one 6 2 (.one 9 2 (.one 12 2 .nil))))))))))))) mixed (by kernel_rfl) (by kernel_rfl) (by kernel_rfl) HQ.body ?_
  obtain ⟨w2, hw2⟩ : ∃ v, v = w1.drew := ⟨_, rfl⟩
  have D2 : Keep nof w1 w2 := by rw [hw2]; exact Keep.drew _ _
  have M2 := M1.step D2
  rw [← hw2]; clear hw2
  refine WP.p rfl rfl rfl rfl (fun _ => Ex.mv rfl) ?_
  refine WP.p rfl rfl rfl rfl (fun _ => Ex.fa fl57_0 rfl) ?_
  refine WP.p rfl rfl rfl rfl (fun _ => Ex.fa fl57_1 rfl) ?_
  refine WP.p rfl rfl rfl rfl (fun _ => Ex.fa fl57_2 rfl) ?_
  refine WP.p rfl rfl rfl rfl (fun _ => Ex.fa fl57_3 rfl) ?_
  refine WP.q (Keep.refl _ _) rfl rfl rfl rfl (fun w' hS => Ex.load ty52 rfl (hS.cell (M2.cell (i := 0) (v := .int .u32 (t.ix : Int)) rfl rfl) hne)) ?_
  refine WP.q (Keep.refl _ _) rfl rfl rfl rfl (fun w' hS => Ex.load ty5 rfl (hS.cell (M2.cell (i := 0) (v := .int .u8 (t.tk : Int)) rfl rfl) hne)) ?_
  refine WP.q (Keep.refl _ _) rfl rfl rfl rfl (fun w' hS => Ex.load ty5 rfl (hS.cell (M2.cell (i := 0) (v := .int .u8 (t.ow : Int)) rfl rfl) hne)) ?_
  refine WP.q (Keep.refl _ _) rfl rfl rfl rfl (fun w' hS => Ex.loadA ty55 rfl (l := intV t.am) (by simpa using hta.1) ((M2.rdt (i := 0) rfl (itt_3 ht)).keep hS (fun a ha => by cases ha; exact hne))) ?_
  refine WP.a rfl rfl rfl rfl (Ac.call rfl Tryd.func49 nm49 rfl (wU32_ok w2 _ _ _ _ (M2.get (i := 1) rfl) (by first | omega | decide) (by first | (simp; done) | (simp; omega) | omega))) ?_; rintro v12 w12 ⟨rfl, v12, T12⟩; refine .inr ⟨fun _ => T12.keep, ?_⟩
  have M12 := M2.turned (i := 1) rfl T12
  try dsimp only [List.set] at M12
  refine WP.a rfl rfl rfl rfl (Ac.call rfl Tryd.func48 nm48 rfl (wU8_ok w12 _ _ _ _ (M12.get (i := 1) rfl) (by first | omega | decide) (by first | (simp; done) | (simp; omega) | omega))) ?_; rintro v13 w13 ⟨rfl, v13, T13⟩; refine .inr ⟨fun _ => (T12.trans T13).keep, ?_⟩
  have M13 := M12.turned (i := 1) rfl T13
  try dsimp only [List.set] at M13
  refine WP.a rfl rfl rfl rfl (Ac.call rfl Tryd.func48 nm48 rfl (wU8_ok w13 _ _ _ _ (M13.get (i := 1) rfl) (by first | omega | decide) (by first | (simp; done) | (simp; omega) | omega))) ?_; rintro v14 w14 ⟨rfl, v14, T14⟩; refine .inr ⟨fun _ => ((T12.trans T13).trans T14).keep, ?_⟩
  have M14 := M13.turned (i := 1) rfl T14
  try dsimp only [List.set] at M14
  refine WP.a rfl rfl rfl rfl (Ac.call rfl Tryd.func62 nm62 rfl (wInt_ok w14 _ _ _ _ (M14.get (i := 1) rfl) ‹_› (by first | (simp; done) | (simp; omega) | omega))) ?_; rintro v15 w15 ⟨rfl, v15, T15⟩; refine .inr ⟨fun _ => (((T12.trans T13).trans T14).trans T15).keep, ?_⟩
  have M15 := M14.turned (i := 1) rfl T15
  try dsimp only [List.set] at M15
  refine WP.nil ?_
  refine WX.end0 rfl ?_
  have Me := (Mem.sub M15 (.cons _ (.refl _))).toTurn
  exact ⟨_, by simpa only [ittB, List.append_assoc] using Me⟩

/- sponsion/intent.Bytes -/
theorem iBytes_ok (w : World) (t : Itt) (ht : IttOk t) :
    Gives Tryd.prog 33 #[.agg (ittC t).toArray] w fun u w1 => New w w1 (row u 5 1 (ittB t).length (bytesV (ittB t))) := by
  have M0 := Mem.start w nof
  refine Gives.enter (n := 11) Tryd.func33 rfl Tryd.ntmps33 rfl (env := [(0, .agg (ittC t).toArray)]) rfl ?_
  refine WC.seq ?_
  refine WC.region ?_
  refine WL.ac rfl rfl rfl (Ac.box M0 (l := ittC t) rfl rfl) ?_; rintro v1 w1 ⟨gi, rfl, hg1, K1, M1⟩
  refine WL.ex rfl rfl rfl (Ex.asg rfl) ?_
  refine WL.nil ?_
  refine WX.next (?_)
  refine WC.seq ?_
  refine WC.region ?_
  refine WL.ex rfl rfl rfl (Ex.bld bd78 (parts := []) rfl rfl rfl rfl) ?_
  refine WL.ac rfl rfl rfl (Ac.box (M1.free (r := row (.slice none 0 0) 5 1 ([] : List UInt8).length (bytesV [])) (row_nil _ _ _) rfl) rfl rfl) ?_; rintro v4 w4 ⟨gw, rfl, hg4, K4, M4⟩
  replace M4 := M4.close1 (fun v => [v])
  refine WL.ex rfl rfl rfl (Ex.asg rfl) ?_
  refine WL.nil ?_
  refine WX.next (?_)
  refine WC.seq ?_
  refine WC.region ?_
  refine WL.ex rfl rfl rfl (Ex.mv rfl) ?_
  refine WL.ex rfl rfl rfl (Ex.loadA ty57 rfl (l := ittC t) (itt_len ht) (M4.rdw (i := 1) rfl)) ?_
  refine WL.ac rfl rfl rfl (Ac.call rfl Tryd.func53 nm53 rfl (iPut_ok w4 _ _ [] _ (M4.get (i := 0) rfl) ht (by simp))) ?_; rintro v8 w8 ⟨v8, T8⟩
  have M8 := M4.turned (i := 0) rfl T8
  try dsimp only [List.set] at M8
  rw [List.nil_append] at M8
  refine WL.nil ?_
  refine WX.next (?_)
  refine WC.seq ?_
  refine WC.region ?_
  refine WL.ex rfl rfl rfl (Ex.mv rfl) ?_
  refine WL.ac rfl rfl rfl (Ac.call rfl Tryd.func51 nm51 rfl (wBytes_ok w8 _ _ _ (M8.get (i := 0) rfl) (by first | (simp; done) | (simp; omega) | omega))) ?_; rintro v10 w10 N10
  have M10 := M8.new N10
  obtain ⟨A10, c10, rfl⟩ := own_slice (M10.get (i := 0) rfl)
  refine WL.ex rfl rfl rfl (Ex.asg rfl) ?_
  refine WL.nil ?_
  refine WX.next (?_)
  refine WC.ret ?_
  refine WX.ret1 rfl rfl ?_
  exact M10.toNew

/- sponsion/sponsionref07.May -/
theorem may7_ok (w : World) (t : Itt) (ht : IttOk t) :
    Gives Tryd.prog 40 #[.agg (ittC t).toArray] w fun u w1 => u = .bool (decide (mayI t)) ∧ Keep nof w w1 := by
  obtain ⟨ix, tk, ow, am⟩ := t
  have hta := ht.am
  have htt := ht.tk
  have hto := ht.ow
  dsimp only at hta htt hto
  obtain ⟨p, q, r, s, rfl⟩ := len4 hta.1
  have M0 := Mem.start w nof
  refine Gives.enter (n := 35) Tryd.func40 rfl Tryd.ntmps40 rfl (env := [(0, .agg (ittC ⟨ix, tk, ow, [p, q, r, s]⟩).toArray)]) rfl ?_
  refine WC.seq ?_
  refine WC.region ?_
  refine WL.ac rfl rfl rfl (Ac.box M0 (l := ittC ⟨ix, tk, ow, [p, q, r, s]⟩) rfl rfl) ?_; rintro v1 w1 ⟨gi, rfl, hg1, K1, M1⟩
  refine WL.ex rfl rfl rfl (Ex.asg rfl) ?_
  refine WL.nil ?_
  refine WX.next (?_)
  refine WC.seq ?_
  refine WC.region ?_
  refine WL.ex rfl rfl rfl (Ex.fa fl57_1 rfl) ?_
  refine WL.ex rfl rfl rfl (Ex.load ty5 rfl (M1.cell (i := 0) rfl rfl)) ?_
  refine WL.ex rfl rfl rfl (Ex.leq rfl rfl) ?_
  by_cases h1 : (tk : Int) ≤ 3
  · rw [decide_eq_true h1]
    refine WL.ex rfl rfl rfl (Ex.mv rfl) ?_
    refine WL.yes rfl rfl rfl rfl ?_
    refine WL.ex rfl rfl rfl (Ex.fa fl57_2 rfl) ?_
    refine WL.yes rfl rfl rfl rfl ?_
    refine WL.ex rfl rfl rfl (Ex.load ty5 rfl (M1.cell (i := 0) rfl rfl)) ?_
    refine WL.yes rfl rfl rfl rfl ?_
    refine WL.ex rfl rfl rfl (Ex.leq rfl rfl) ?_
    by_cases h2 : (ow : Int) ≤ 15
    · rw [decide_eq_true h2]
      refine WL.ex rfl rfl rfl (Ex.pickT rfl rfl) ?_
      refine WL.ex rfl rfl rfl (Ex.mv rfl) ?_
      refine WL.yes rfl rfl rfl rfl ?_
      refine WL.ex rfl rfl rfl (Ex.fa fl57_3 rfl) ?_
      refine WL.yes rfl rfl rfl rfl ?_
      refine WL.ex rfl rfl rfl (Ex.iaA Tryd.underlying55 sz53 rfl rfl ⟨by omega, by omega⟩) ?_
      refine WL.yes rfl rfl rfl rfl ?_
      refine WL.ex rfl rfl rfl (Ex.load ty53 rfl (M1.cell (i := 0) rfl rfl)) ?_
      refine WL.yes rfl rfl rfl rfl ?_
      refine WL.ex rfl rfl rfl (Ex.gtr rfl rfl) ?_
      by_cases h3 : (0 : Int) < p
      · rw [decide_eq_true h3]
        refine WL.yes rfl rfl rfl rfl ?_
        refine WL.ex rfl rfl rfl (Ex.mv rfl) ?_
        refine WL.no rfl rfl rfl rfl rfl rfl ?_
        refine WL.no rfl rfl rfl rfl rfl rfl ?_
        refine WL.no rfl rfl rfl rfl rfl rfl ?_
        refine WL.no rfl rfl rfl rfl rfl rfl ?_
        refine WL.yes rfl rfl rfl rfl ?_
        refine WL.ex rfl rfl rfl (Ex.pickT rfl rfl) ?_
        refine WL.yes rfl rfl rfl rfl ?_
        refine WL.ex rfl rfl rfl (Ex.mv rfl) ?_
        refine WL.no rfl rfl rfl rfl rfl rfl ?_
        refine WL.no rfl rfl rfl rfl rfl rfl ?_
        refine WL.no rfl rfl rfl rfl rfl rfl ?_
        refine WL.no rfl rfl rfl rfl rfl rfl ?_
        refine WL.yes rfl rfl rfl rfl ?_
        refine WL.ex rfl rfl rfl (Ex.pickT rfl rfl) ?_
        refine WL.yes rfl rfl rfl rfl ?_
        refine WL.ex rfl rfl rfl (Ex.mv rfl) ?_
        refine WL.no rfl rfl rfl rfl rfl rfl ?_
        refine WL.no rfl rfl rfl rfl rfl rfl ?_
        refine WL.no rfl rfl rfl rfl rfl rfl ?_
        refine WL.no rfl rfl rfl rfl rfl rfl ?_
        refine WL.yes rfl rfl rfl rfl ?_
        refine WL.ex rfl rfl rfl (Ex.pickT rfl rfl) ?_
        refine WL.ex rfl rfl rfl (Ex.pickT rfl rfl) ?_
        refine WL.ex rfl rfl rfl (Ex.asg rfl) ?_
        refine WL.nil ?_
        refine WX.next (?_)
        refine WC.ret ?_
        refine WX.ret1 rfl rfl ?_
        exact ⟨congrArg Value.bool (decide_eq_true (p := mayI _) ⟨by dsimp only; omega, by dsimp only; omega, fun h => by simp only [List.cons.injEq] at h; omega⟩).symm, M1.keep⟩
      · rw [decide_eq_false h3]
        refine WL.yes rfl rfl rfl rfl ?_
        refine WL.ex rfl rfl rfl (Ex.mv rfl) ?_
        refine WL.yes rfl rfl rfl rfl ?_
        refine WL.ex rfl rfl rfl (Ex.fa fl57_3 rfl) ?_
        refine WL.yes rfl rfl rfl rfl ?_
        refine WL.ex rfl rfl rfl (Ex.iaA Tryd.underlying55 sz53 rfl rfl ⟨by omega, by omega⟩) ?_
        refine WL.yes rfl rfl rfl rfl ?_
        refine WL.ex rfl rfl rfl (Ex.load ty53 rfl (M1.cell (i := 0) rfl rfl)) ?_
        refine WL.yes rfl rfl rfl rfl ?_
        refine WL.ex rfl rfl rfl (Ex.gtr rfl rfl) ?_
        by_cases h4 : (0 : Int) < q
        · rw [decide_eq_true h4]
          refine WL.yes rfl rfl rfl rfl ?_
          refine WL.ex rfl rfl rfl (Ex.pickF rfl rfl) ?_
          refine WL.yes rfl rfl rfl rfl ?_
          refine WL.ex rfl rfl rfl (Ex.mv rfl) ?_
          refine WL.no rfl rfl rfl rfl rfl rfl ?_
          refine WL.no rfl rfl rfl rfl rfl rfl ?_
          refine WL.no rfl rfl rfl rfl rfl rfl ?_
          refine WL.no rfl rfl rfl rfl rfl rfl ?_
          refine WL.yes rfl rfl rfl rfl ?_
          refine WL.ex rfl rfl rfl (Ex.pickT rfl rfl) ?_
          refine WL.yes rfl rfl rfl rfl ?_
          refine WL.ex rfl rfl rfl (Ex.mv rfl) ?_
          refine WL.no rfl rfl rfl rfl rfl rfl ?_
          refine WL.no rfl rfl rfl rfl rfl rfl ?_
          refine WL.no rfl rfl rfl rfl rfl rfl ?_
          refine WL.no rfl rfl rfl rfl rfl rfl ?_
          refine WL.yes rfl rfl rfl rfl ?_
          refine WL.ex rfl rfl rfl (Ex.pickT rfl rfl) ?_
          refine WL.ex rfl rfl rfl (Ex.pickT rfl rfl) ?_
          refine WL.ex rfl rfl rfl (Ex.asg rfl) ?_
          refine WL.nil ?_
          refine WX.next (?_)
          refine WC.ret ?_
          refine WX.ret1 rfl rfl ?_
          exact ⟨congrArg Value.bool (decide_eq_true (p := mayI _) ⟨by dsimp only; omega, by dsimp only; omega, fun h => by simp only [List.cons.injEq] at h; omega⟩).symm, M1.keep⟩
        · rw [decide_eq_false h4]
          refine WL.yes rfl rfl rfl rfl ?_
          refine WL.ex rfl rfl rfl (Ex.pickF rfl rfl) ?_
          refine WL.yes rfl rfl rfl rfl ?_
          refine WL.ex rfl rfl rfl (Ex.mv rfl) ?_
          refine WL.yes rfl rfl rfl rfl ?_
          refine WL.ex rfl rfl rfl (Ex.fa fl57_3 rfl) ?_
          refine WL.yes rfl rfl rfl rfl ?_
          refine WL.ex rfl rfl rfl (Ex.iaA Tryd.underlying55 sz53 rfl rfl ⟨by omega, by omega⟩) ?_
          refine WL.yes rfl rfl rfl rfl ?_
          refine WL.ex rfl rfl rfl (Ex.load ty53 rfl (M1.cell (i := 0) rfl rfl)) ?_
          refine WL.yes rfl rfl rfl rfl ?_
          refine WL.ex rfl rfl rfl (Ex.gtr rfl rfl) ?_
          by_cases h5 : (0 : Int) < r
          · rw [decide_eq_true h5]
            refine WL.yes rfl rfl rfl rfl ?_
            refine WL.ex rfl rfl rfl (Ex.pickF rfl rfl) ?_
            refine WL.yes rfl rfl rfl rfl ?_
            refine WL.ex rfl rfl rfl (Ex.mv rfl) ?_
            refine WL.no rfl rfl rfl rfl rfl rfl ?_
            refine WL.no rfl rfl rfl rfl rfl rfl ?_
            refine WL.no rfl rfl rfl rfl rfl rfl ?_
            refine WL.no rfl rfl rfl rfl rfl rfl ?_
            refine WL.yes rfl rfl rfl rfl ?_
            refine WL.ex rfl rfl rfl (Ex.pickT rfl rfl) ?_
            refine WL.ex rfl rfl rfl (Ex.pickT rfl rfl) ?_
            refine WL.ex rfl rfl rfl (Ex.asg rfl) ?_
            refine WL.nil ?_
            refine WX.next (?_)
            refine WC.ret ?_
            refine WX.ret1 rfl rfl ?_
            exact ⟨congrArg Value.bool (decide_eq_true (p := mayI _) ⟨by dsimp only; omega, by dsimp only; omega, fun h => by simp only [List.cons.injEq] at h; omega⟩).symm, M1.keep⟩
          · rw [decide_eq_false h5]
            refine WL.yes rfl rfl rfl rfl ?_
            refine WL.ex rfl rfl rfl (Ex.pickF rfl rfl) ?_
            refine WL.yes rfl rfl rfl rfl ?_
            refine WL.ex rfl rfl rfl (Ex.mv rfl) ?_
            refine WL.yes rfl rfl rfl rfl ?_
            refine WL.ex rfl rfl rfl (Ex.fa fl57_3 rfl) ?_
            refine WL.yes rfl rfl rfl rfl ?_
            refine WL.ex rfl rfl rfl (Ex.iaA Tryd.underlying55 sz53 rfl rfl ⟨by omega, by omega⟩) ?_
            refine WL.yes rfl rfl rfl rfl ?_
            refine WL.ex rfl rfl rfl (Ex.load ty53 rfl (M1.cell (i := 0) rfl rfl)) ?_
            refine WL.yes rfl rfl rfl rfl ?_
            refine WL.ex rfl rfl rfl (Ex.gtr rfl rfl) ?_
            by_cases h6 : (0 : Int) < s
            · rw [decide_eq_true h6]
              refine WL.yes rfl rfl rfl rfl ?_
              refine WL.ex rfl rfl rfl (Ex.pickF rfl rfl) ?_
              refine WL.ex rfl rfl rfl (Ex.pickT rfl rfl) ?_
              refine WL.ex rfl rfl rfl (Ex.asg rfl) ?_
              refine WL.nil ?_
              refine WX.next (?_)
              refine WC.ret ?_
              refine WX.ret1 rfl rfl ?_
              exact ⟨congrArg Value.bool (decide_eq_true (p := mayI _) ⟨by dsimp only; omega, by dsimp only; omega, fun h => by simp only [List.cons.injEq] at h; omega⟩).symm, M1.keep⟩
            · rw [decide_eq_false h6]
              refine WL.yes rfl rfl rfl rfl ?_
              refine WL.ex rfl rfl rfl (Ex.pickF rfl rfl) ?_
              refine WL.ex rfl rfl rfl (Ex.pickT rfl rfl) ?_
              refine WL.ex rfl rfl rfl (Ex.asg rfl) ?_
              refine WL.nil ?_
              refine WX.next (?_)
              refine WC.ret ?_
              refine WX.ret1 rfl rfl ?_
              exact ⟨congrArg Value.bool (decide_eq_false (p := mayI _) (fun h => by obtain ⟨e1, e2, e3⟩ := h; dsimp only at e1 e2 e3; exact e3 (by rw [show p = 0 by omega, show q = 0 by omega, show r = 0 by omega, show s = 0 by omega]))).symm, M1.keep⟩
    · rw [decide_eq_false h2]
      refine WL.ex rfl rfl rfl (Ex.pickT rfl rfl) ?_
      refine WL.ex rfl rfl rfl (Ex.mv rfl) ?_
      refine WL.no rfl rfl rfl rfl rfl rfl ?_
      refine WL.no rfl rfl rfl rfl rfl rfl ?_
      refine WL.no rfl rfl rfl rfl rfl rfl ?_
      refine WL.no rfl rfl rfl rfl rfl rfl ?_
      refine WL.no rfl rfl rfl rfl rfl rfl ?_
      refine WL.no rfl rfl rfl rfl rfl rfl ?_
      refine WL.no rfl rfl rfl rfl rfl rfl ?_
      refine WL.no rfl rfl rfl rfl rfl rfl ?_
      refine WL.no rfl rfl rfl rfl rfl rfl ?_
      refine WL.no rfl rfl rfl rfl rfl rfl ?_
      refine WL.no rfl rfl rfl rfl rfl rfl ?_
      refine WL.no rfl rfl rfl rfl rfl rfl ?_
      refine WL.no rfl rfl rfl rfl rfl rfl ?_
      refine WL.no rfl rfl rfl rfl rfl rfl ?_
      refine WL.no rfl rfl rfl rfl rfl rfl ?_
      refine WL.no rfl rfl rfl rfl rfl rfl ?_
      refine WL.no rfl rfl rfl rfl rfl rfl ?_
      refine WL.no rfl rfl rfl rfl rfl rfl ?_
      refine WL.no rfl rfl rfl rfl rfl rfl ?_
      refine WL.no rfl rfl rfl rfl rfl rfl ?_
      refine WL.no rfl rfl rfl rfl rfl rfl ?_
      refine WL.no rfl rfl rfl rfl rfl rfl ?_
      refine WL.ex rfl rfl rfl (Ex.pickF rfl rfl) ?_
      refine WL.ex rfl rfl rfl (Ex.asg rfl) ?_
      refine WL.nil ?_
      refine WX.next (?_)
      refine WC.ret ?_
      refine WX.ret1 rfl rfl ?_
      exact ⟨congrArg Value.bool (decide_eq_false (p := mayI _) (fun h => by obtain ⟨e1, e2, e3⟩ := h; dsimp only at e1 e2 e3; omega)).symm, M1.keep⟩
  · rw [decide_eq_false h1]
    refine WL.ex rfl rfl rfl (Ex.mv rfl) ?_
    refine WL.no rfl rfl rfl rfl rfl rfl ?_
    refine WL.no rfl rfl rfl rfl rfl rfl ?_
    refine WL.no rfl rfl rfl rfl rfl rfl ?_
    refine WL.ex rfl rfl rfl (Ex.pickF rfl rfl) ?_
    refine WL.ex rfl rfl rfl (Ex.mv rfl) ?_
    refine WL.no rfl rfl rfl rfl rfl rfl ?_
    refine WL.no rfl rfl rfl rfl rfl rfl ?_
    refine WL.no rfl rfl rfl rfl rfl rfl ?_
    refine WL.no rfl rfl rfl rfl rfl rfl ?_
    refine WL.no rfl rfl rfl rfl rfl rfl ?_
    refine WL.no rfl rfl rfl rfl rfl rfl ?_
    refine WL.no rfl rfl rfl rfl rfl rfl ?_
    refine WL.no rfl rfl rfl rfl rfl rfl ?_
    refine WL.no rfl rfl rfl rfl rfl rfl ?_
    refine WL.no rfl rfl rfl rfl rfl rfl ?_
    refine WL.no rfl rfl rfl rfl rfl rfl ?_
    refine WL.no rfl rfl rfl rfl rfl rfl ?_
    refine WL.no rfl rfl rfl rfl rfl rfl ?_
    refine WL.no rfl rfl rfl rfl rfl rfl ?_
    refine WL.no rfl rfl rfl rfl rfl rfl ?_
    refine WL.no rfl rfl rfl rfl rfl rfl ?_
    refine WL.no rfl rfl rfl rfl rfl rfl ?_
    refine WL.no rfl rfl rfl rfl rfl rfl ?_
    refine WL.no rfl rfl rfl rfl rfl rfl ?_
    refine WL.no rfl rfl rfl rfl rfl rfl ?_
    refine WL.no rfl rfl rfl rfl rfl rfl ?_
    refine WL.no rfl rfl rfl rfl rfl rfl ?_
    refine WL.ex rfl rfl rfl (Ex.pickF rfl rfl) ?_
    refine WL.ex rfl rfl rfl (Ex.asg rfl) ?_
    refine WL.nil ?_
    refine WX.next (?_)
    refine WC.ret ?_
    refine WX.ret1 rfl rfl ?_
    exact ⟨congrArg Value.bool (decide_eq_false (p := mayI _) (fun h => by obtain ⟨e1, e2, e3⟩ := h; dsimp only at e1 e2 e3; omega)).symm, M1.keep⟩

/- sponsion/intent.Check -/
theorem iCheck_ok (w : World) (t : Itt) (ht : IttOk t) :
    Gives Tryd.prog 41 #[.agg (ittC t).toArray] w fun u w1 => u = .int .i64 (if mayI t then 0 else 6) ∧ Keep nof w w1 := by
  obtain ⟨ix, tk, ow, am⟩ := t
  have hta := ht.am
  have htt := ht.tk
  have hto := ht.ow
  dsimp only at hta htt hto
  obtain ⟨p, q, r, s, rfl⟩ := len4 hta.1
  have M0 := Mem.start w nof
  refine Gives.enter (n := 17) Tryd.func41 rfl Tryd.ntmps41 rfl (env := [(0, .agg (ittC ⟨ix, tk, ow, [p, q, r, s]⟩).toArray)]) rfl ?_
  refine WC.seq ?_
  refine WC.region ?_
  refine WL.ac rfl rfl rfl (Ac.box M0 (l := ittC ⟨ix, tk, ow, [p, q, r, s]⟩) rfl rfl) ?_; rintro v1 w1 ⟨gi, rfl, hg1, K1, M1⟩
  refine WL.ex rfl rfl rfl (Ex.asg rfl) ?_
  refine WL.nil ?_
  refine WX.next (?_)
  refine WC.seq ?_
  refine WC.seq ?_
  refine WC.region ?_
  refine WL.ex rfl rfl rfl (Ex.fa fl57_1 rfl) ?_
  refine WL.ex rfl rfl rfl (Ex.load ty5 rfl (M1.cell (i := 0) rfl rfl)) ?_
  refine WL.ex rfl rfl rfl (Ex.geq rfl rfl) ?_
  by_cases h1 : (4 : Int) ≤ tk
  · rw [decide_eq_true h1]
    refine WL.ex rfl rfl rfl (Ex.mv rfl) ?_
    refine WL.no rfl rfl rfl rfl rfl rfl ?_
    refine WL.no rfl rfl rfl rfl rfl rfl ?_
    refine WL.no rfl rfl rfl rfl rfl rfl ?_
    refine WL.ex rfl rfl rfl (Ex.pickT rfl rfl) ?_
    refine WL.ex rfl rfl rfl (Ex.mv rfl) ?_
    refine WL.no rfl rfl rfl rfl rfl rfl ?_
    refine WL.no rfl rfl rfl rfl rfl rfl ?_
    refine WL.no rfl rfl rfl rfl rfl rfl ?_
    refine WL.no rfl rfl rfl rfl rfl rfl ?_
    refine WL.ex rfl rfl rfl (Ex.pickT rfl rfl) ?_
    refine WL.nil ?_
    refine WX.next (?_)
    refine WC.yes rfl ?_
    refine WC.seq ?_
    refine WC.region ?_
    refine WL.ex rfl rfl rfl (Ex.asg rfl) ?_
    refine WL.nil ?_
    refine WX.next (?_)
    refine WC.ret ?_
    refine WX.ret_then (?_)
    refine WX.ret1 rfl rfl ?_
    exact ⟨by rw [if_neg (fun h : mayI _ => by obtain ⟨e1, e2, e3⟩ := h; dsimp only at e1 e2 e3; first | omega | exact e3 h3)], M1.keep⟩
  · rw [decide_eq_false h1]
    refine WL.ex rfl rfl rfl (Ex.mv rfl) ?_
    refine WL.yes rfl rfl rfl rfl ?_
    refine WL.ex rfl rfl rfl (Ex.fa fl57_2 rfl) ?_
    refine WL.yes rfl rfl rfl rfl ?_
    refine WL.ex rfl rfl rfl (Ex.load ty5 rfl (M1.cell (i := 0) rfl rfl)) ?_
    refine WL.yes rfl rfl rfl rfl ?_
    refine WL.ex rfl rfl rfl (Ex.geq rfl rfl) ?_
    by_cases h2 : (16 : Int) ≤ ow
    · rw [decide_eq_true h2]
      refine WL.ex rfl rfl rfl (Ex.pickF rfl rfl) ?_
      refine WL.ex rfl rfl rfl (Ex.mv rfl) ?_
      refine WL.no rfl rfl rfl rfl rfl rfl ?_
      refine WL.no rfl rfl rfl rfl rfl rfl ?_
      refine WL.no rfl rfl rfl rfl rfl rfl ?_
      refine WL.no rfl rfl rfl rfl rfl rfl ?_
      refine WL.ex rfl rfl rfl (Ex.pickT rfl rfl) ?_
      refine WL.nil ?_
      refine WX.next (?_)
      refine WC.yes rfl ?_
      refine WC.seq ?_
      refine WC.region ?_
      refine WL.ex rfl rfl rfl (Ex.asg rfl) ?_
      refine WL.nil ?_
      refine WX.next (?_)
      refine WC.ret ?_
      refine WX.ret_then (?_)
      refine WX.ret1 rfl rfl ?_
      exact ⟨by rw [if_neg (fun h : mayI _ => by obtain ⟨e1, e2, e3⟩ := h; dsimp only at e1 e2 e3; first | omega | exact e3 h3)], M1.keep⟩
    · rw [decide_eq_false h2]
      refine WL.ex rfl rfl rfl (Ex.pickF rfl rfl) ?_
      refine WL.ex rfl rfl rfl (Ex.mv rfl) ?_
      refine WL.yes rfl rfl rfl rfl ?_
      refine WL.ex rfl rfl rfl (Ex.fa fl57_3 rfl) ?_
      refine WL.yes rfl rfl rfl rfl ?_
      refine WL.ex rfl rfl rfl (Ex.loadA ty55 rfl (l := intV [p, q, r, s]) rfl (M1.rdt (m := 4) (i := 0) rfl rfl)) ?_
      refine WL.yes rfl rfl rfl rfl ?_
      refine WL.ex rfl rfl rfl (Ex.bld bd55 (parts := []) (l := intV [0, 0, 0, 0]) rfl rfl rfl rfl) ?_
      refine WL.yes rfl rfl rfl rfl ?_
      refine WL.ex rfl rfl rfl (Ex.eqA rfl rfl (eqInt w hta int4_0)) ?_
      by_cases h3 : [p, q, r, s] = [0, 0, 0, 0]
      · rw [decide_eq_true h3]
        refine WL.ex rfl rfl rfl (Ex.pickF rfl rfl) ?_
        refine WL.nil ?_
        refine WX.next (?_)
        refine WC.yes rfl ?_
        refine WC.seq ?_
        refine WC.region ?_
        refine WL.ex rfl rfl rfl (Ex.asg rfl) ?_
        refine WL.nil ?_
        refine WX.next (?_)
        refine WC.ret ?_
        refine WX.ret_then (?_)
        refine WX.ret1 rfl rfl ?_
        exact ⟨by rw [if_neg (fun h : mayI _ => by obtain ⟨e1, e2, e3⟩ := h; dsimp only at e1 e2 e3; first | omega | exact e3 h3)], M1.keep⟩
      · rw [decide_eq_false h3]
        refine WL.ex rfl rfl rfl (Ex.pickF rfl rfl) ?_
        refine WL.nil ?_
        refine WX.next (?_)
        refine WC.no rfl ?_
        refine WC.skip ?_
        refine WX.next (?_)
        refine WC.seq ?_
        refine WC.region ?_
        refine WL.ex rfl rfl rfl (Ex.asg rfl) ?_
        refine WL.nil ?_
        refine WX.next (?_)
        refine WC.ret ?_
        refine WX.ret1 rfl rfl ?_
        exact ⟨by rw [if_pos (show mayI _ from ⟨by dsimp only; omega, by dsimp only; omega, h3⟩)], M1.keep⟩

/- sponsion/intent.Get -/
theorem iGet_walk (w : World) (g : Nat) (D : List Nat) (l : List UInt8) (e : Int) (h : (rdR g D (l, e)).sat w) (h0 : e ≠ 0 → l = []) :
    Gives Tryd.prog 55 #[.pointer (some ⟨g, 0, none⟩)] w fun u w1 => u = .agg (ittC (iGet (l, e)).1).toArray ∧ Turn w w1 (rdR g D (l, e)) (rdR g D (iGet (l, e)).2) := by
  have M0 := Mem.begin h
  refine Gives.enter (n := 25) Tryd.func55 rfl Tryd.ntmps55 rfl (env := [(0, .pointer (some ⟨g, 0, none⟩))]) rfl ?_
  refine WC.seq ?_
  refine WC.region ?_
  refine WL.ac rfl rfl rfl (Ac.alloc M0 (l := ittC itt0) (by kernel_rfl)) ?_; rintro v1 w1 ⟨go, rfl, hg1, K1, M1⟩
  by_cases hc : e = 0 ∧ 38 ≤ l.length
  · obtain ⟨rfl, hc2⟩ := hc
    obtain ⟨A, B, C, Dd, L, hA, hB, hC, hD, rfl⟩ := split38 hc2
    have hx : IttOk ⟨beVal A, beVal B, beVal C, ofB Dd⟩ := by have := ittOf_ok (b := A ++ (B ++ (C ++ Dd))) (by simp [hA, hB, hC, hD]); rwa [ittOf_app hA hB hC] at this
    refine WL.nil ?_
    refine WX.next (?_)
    refine WC.seq ?_
    refine WC.region ?_
    refine WL.ex rfl rfl rfl (Ex.mv rfl) ?_
    refine WL.ac rfl rfl rfl (Ac.call rfl Tryd.func63 nm63 rfl (rU32_ok w1 _ _ _ _ (M1.get (i := 1) rfl))) ?_; rintro v3 w3 ⟨rfl, T3⟩
    rw [rTake_app2 hA] at T3
    rw [rTake_app1 hA]
    have M3 := M1.turned (i := 1) rfl T3
    try dsimp only [List.set] at M3
    refine WL.ex rfl rfl rfl (Ex.mv rfl) ?_
    refine WL.ac rfl rfl rfl (Ac.call rfl Tryd.func64 nm64 rfl (rU8_ok w3 _ _ _ _ (M3.get (i := 1) rfl))) ?_; rintro v5 w5 ⟨rfl, T5⟩
    rw [rTake_app2 hB] at T5
    rw [rTake_app1 hB]
    have M5 := M3.turned (i := 1) rfl T5
    try dsimp only [List.set] at M5
    refine WL.ex rfl rfl rfl (Ex.mv rfl) ?_
    refine WL.ac rfl rfl rfl (Ac.call rfl Tryd.func64 nm64 rfl (rU8_ok w5 _ _ _ _ (M5.get (i := 1) rfl))) ?_; rintro v7 w7 ⟨rfl, T7⟩
    rw [rTake_app2 hC] at T7
    rw [rTake_app1 hC]
    have M7 := M5.turned (i := 1) rfl T7
    try dsimp only [List.set] at M7
    refine WL.ex rfl rfl rfl (Ex.mv rfl) ?_
    refine WL.ac rfl rfl rfl (Ac.call rfl Tryd.func65 nm65 rfl (rInt_ok w7 _ _ _ _ (M7.get (i := 1) rfl))) ?_; rintro v9 w9 ⟨rfl, T9⟩
    rw [rTake_app2 hD] at T9
    rw [rTake_app1 hD, show rInt Dd = ofB Dd by rw [rInt, if_pos hD]]
    have M9 := M7.turned (i := 1) rfl T9
    try dsimp only [List.set] at M9
    refine WL.ex rfl rfl rfl (Ex.bldS bd57 (parts := [(0, .tmp 5), (1, .tmp 7), (2, .tmp 9), (3, .tmp 11)]) _ rfl rfl rfl (bldItt (ofB_len Dd))) ?_
    refine WL.ac rfl rfl rfl (Ac.alloc M9 (l := ittC itt0) (by kernel_rfl)) ?_; rintro v11 w11 ⟨gx, rfl, hg11, K11, M11⟩
    refine WL.ac0 rfl rfl (Ac.stA M11 ty57 rfl rfl (vs := ittC ⟨beVal A, beVal B, beVal C, ofB Dd⟩) rfl (itt_len hx) itt_one (i := 0) rfl (by rw [itt_len hx, itt_len itt0_ok]; decide)) ?_; rintro v12 w12 ⟨K12, M12⟩
    try dsimp only [List.set] at M12
    rw [splice_all _ _ (by rw [itt_len hx, itt_len itt0_ok])] at M12
    refine WL.nil ?_
    refine WX.next (?_)
    refine WC.seq ?_
    refine WC.seq ?_
    refine WC.region ?_
    refine WL.ex rfl rfl rfl (Ex.mv rfl) ?_
    refine WL.ac rfl rfl rfl (Ac.call rfl Tryd.func66 nm66 rfl (rErr_ok w12 _ _ _ _ (M12.get (i := 2) rfl))) ?_; rintro v14 w14 ⟨rfl, rfl⟩
    refine WL.ex rfl rfl rfl (Ex.eqI rfl rfl) ?_
    refine WL.nil ?_
    refine WX.next (?_)
    
    refine WC.yes (congrArg (fun b => some (Value.bool b)) (decide_eq_true rfl)) ?_
    refine WC.region ?_
    refine WL.ex rfl rfl rfl (Ex.mv rfl) ?_
    refine WL.ex rfl rfl rfl (Ex.loadA ty57 rfl (l := ittC ⟨beVal A, beVal B, beVal C, ofB Dd⟩) (itt_len hx) (M12.rdw (i := 0) rfl)) ?_
    refine WL.ac rfl rfl rfl (Ac.call rfl Tryd.func41 nm41 rfl (iCheck_ok w14 _ ‹_›)) ?_; rintro v18 w18 ⟨rfl, K18⟩
    have M18 := M12.step K18
    by_cases hm : mayI ⟨beVal A, beVal B, beVal C, ofB Dd⟩
    · rw [if_pos hm]
      refine WL.ac rfl rfl rfl (Ac.call rfl Tryd.func67 nm67 rfl (rFail_ok w18 _ _ _ _ _ (M18.get (i := 2) rfl))) ?_; rintro v19 w19 T19
      rw [show rFail (L, 0) 0 = (L, 0) by simp [rFail]] at T19
      have M19 := M18.turned (i := 2) rfl T19
      try dsimp only [List.set] at M19
      refine WL.nil ?_
      refine WX.next (?_)
      refine WC.seq ?_
      refine WC.seq ?_
      refine WC.region ?_
      refine WL.ex rfl rfl rfl (Ex.mv rfl) ?_
      refine WL.ac rfl rfl rfl (Ac.call rfl Tryd.func66 nm66 rfl (rErr_ok w19 _ _ _ _ (M19.get (i := 2) rfl))) ?_; rintro v21 w21 ⟨rfl, rfl⟩
      refine WL.ex rfl rfl rfl (Ex.neI rfl rfl) ?_
      refine WL.nil ?_
      refine WX.next (?_)
      
      refine WC.no (congrArg (fun b => some (Value.bool !b)) (decide_eq_true rfl)) ?_
      refine WC.skip ?_
      refine WX.next (?_)
      refine WC.seq ?_
      refine WC.region ?_
      refine WL.ex rfl rfl rfl (Ex.loadA ty57 rfl (l := ittC ⟨beVal A, beVal B, beVal C, ofB Dd⟩) (itt_len hx) (M19.rdw (i := 0) rfl)) ?_
      refine WL.ac0 rfl rfl (Ac.stA M19 ty57 rfl rfl (vs := ittC ⟨beVal A, beVal B, beVal C, ofB Dd⟩) rfl (itt_len hx) itt_one (i := 1) rfl (by rw [itt_len hx, itt_len itt0_ok]; decide)) ?_; rintro v24 w24 ⟨K24, M24⟩
      try dsimp only [List.set] at M24
      rw [splice_all _ _ (by rw [itt_len hx, itt_len itt0_ok])] at M24
      refine WL.nil ?_
      refine WX.next (?_)
      refine WC.ret ?_
      refine WX.retc rfl rfl (run_loadVarA ty57 (by first | rfl | exact itt_len hx) (M24.rdw (i := 1) rfl)) ?_
      rw [iGet_app hA hB hC hD, if_pos hm]
      exact ⟨rfl, (Mem.sub M24 (.cons _ (.cons _ (.refl _)))).toTurn⟩
    · rw [if_neg hm]
      refine WL.ac rfl rfl rfl (Ac.call rfl Tryd.func67 nm67 rfl (rFail_ok w18 _ _ _ _ _ (M18.get (i := 2) rfl))) ?_; rintro v25 w25 T25
      rw [show rFail (L, 0) 6 = ([], 6) by simp [rFail]] at T25
      have M25 := M18.turned (i := 2) rfl T25
      try dsimp only [List.set] at M25
      refine WL.nil ?_
      refine WX.next (?_)
      refine WC.seq ?_
      refine WC.seq ?_
      refine WC.region ?_
      refine WL.ex rfl rfl rfl (Ex.mv rfl) ?_
      refine WL.ac rfl rfl rfl (Ac.call rfl Tryd.func66 nm66 rfl (rErr_ok w25 _ _ _ _ (M25.get (i := 2) rfl))) ?_; rintro v27 w27 ⟨rfl, rfl⟩
      refine WL.ex rfl rfl rfl (Ex.neI rfl rfl) ?_
      refine WL.nil ?_
      refine WX.next (?_)
      
      refine WC.yes (congrArg (fun b => some (Value.bool !b)) (decide_eq_false (by decide))) ?_
      refine WC.seq ?_
      refine WC.region ?_
      refine WL.ex rfl rfl rfl (Ex.bld bd57 (parts := []) (l := ittC itt0) rfl rfl rfl rfl) ?_
      refine WL.ac0 rfl rfl (Ac.stA M25 ty57 rfl rfl (vs := ittC itt0) rfl rfl itt_one (i := 1) rfl (Nat.le_refl _)) ?_; rintro v30 w30 ⟨K30, M30⟩
      try dsimp only [List.set] at M30
      rw [splice_all _ _ rfl] at M30
      refine WL.nil ?_
      refine WX.next (?_)
      refine WC.ret ?_
      refine WX.ret_then (?_)
      refine WX.retc rfl rfl (run_loadVarA ty57 (by first | rfl | exact itt_len hx) (M30.rdw (i := 1) rfl)) ?_
      rw [iGet_app hA hB hC hD, if_neg hm]
      exact ⟨rfl, (Mem.sub M30 (.cons _ (.cons _ (.refl _)))).toTurn⟩
  ·
    refine WL.nil ?_
    refine WX.next (?_)
    refine WC.seq ?_
    refine WC.region ?_
    refine WL.ex rfl rfl rfl (Ex.mv rfl) ?_
    refine WL.ac rfl rfl rfl (Ac.call rfl Tryd.func63 nm63 rfl (rU32_ok w1 _ _ l e (M1.get (i := 1) rfl))) ?_; rintro v32 w32 ⟨rfl, T32⟩
    obtain ⟨⟨o1, l1, e1⟩, hp1⟩ : ∃ p, p = rTake (l, e) 4 := ⟨_, rfl⟩
    rw [← hp1] at T32 ⊢
    have M32 := M1.turned (i := 1) rfl T32
    try dsimp only [List.set] at M32
    refine WL.ex rfl rfl rfl (Ex.mv rfl) ?_
    refine WL.ac rfl rfl rfl (Ac.call rfl Tryd.func64 nm64 rfl (rU8_ok w32 _ _ l1 e1 (M32.get (i := 1) rfl))) ?_; rintro v34 w34 ⟨rfl, T34⟩
    obtain ⟨⟨o2, l2, e2⟩, hp2⟩ : ∃ p, p = rTake (l1, e1) 1 := ⟨_, rfl⟩
    rw [← hp2] at T34 ⊢
    have M34 := M32.turned (i := 1) rfl T34
    try dsimp only [List.set] at M34
    refine WL.ex rfl rfl rfl (Ex.mv rfl) ?_
    refine WL.ac rfl rfl rfl (Ac.call rfl Tryd.func64 nm64 rfl (rU8_ok w34 _ _ l2 e2 (M34.get (i := 1) rfl))) ?_; rintro v36 w36 ⟨rfl, T36⟩
    obtain ⟨⟨o3, l3, e3⟩, hp3⟩ : ∃ p, p = rTake (l2, e2) 1 := ⟨_, rfl⟩
    rw [← hp3] at T36 ⊢
    have M36 := M34.turned (i := 1) rfl T36
    try dsimp only [List.set] at M36
    refine WL.ex rfl rfl rfl (Ex.mv rfl) ?_
    refine WL.ac rfl rfl rfl (Ac.call rfl Tryd.func65 nm65 rfl (rInt_ok w36 _ _ l3 e3 (M36.get (i := 1) rfl))) ?_; rintro v38 w38 ⟨rfl, T38⟩
    obtain ⟨⟨o4, l4, e4⟩, hp4⟩ : ∃ p, p = rTake (l3, e3) 32 := ⟨_, rfl⟩
    rw [← hp4] at T38 ⊢
    have M38 := M36.turned (i := 1) rfl T38
    try dsimp only [List.set] at M38
    obtain ⟨a0, a1, a2, a3, ha⟩ := len4 (rInt_len o4)
    dsimp only
    rw [ha]
    have hk := takes_short (s := (l, e)) h0 hc
    rw [← hp1] at hk
    dsimp only at hk
    rw [← hp2] at hk
    dsimp only at hk
    rw [← hp3] at hk
    dsimp only at hk
    rw [← hp4] at hk
    dsimp only at hk
    obtain ⟨hk1, hk2⟩ := hk
    rw [← hk1] at hk2
    dsimp only at hk2
    refine WL.ex rfl rfl rfl (Ex.bldS bd57 (parts := [(0, .tmp 5), (1, .tmp 7), (2, .tmp 9), (3, .tmp 11)]) _ rfl rfl rfl (bldItt (am := [a0, a1, a2, a3]) rfl)) ?_
    refine WL.ac rfl rfl rfl (Ac.alloc M38 (l := ittC itt0) (by kernel_rfl)) ?_; rintro v40 w40 ⟨gx, rfl, hg40, K40, M40⟩
    refine WL.ac0 rfl rfl (Ac.stA M40 ty57 rfl rfl (vs := ittC ⟨beVal o1, beVal o2, beVal o3, [a0, a1, a2, a3]⟩) rfl rfl itt_one (i := 0) rfl (by rw [itt_len itt0_ok]; exact Nat.le_refl 7)) ?_; rintro v41 w41 ⟨K41, M41⟩
    try dsimp only [List.set] at M41
    rw [splice_all _ _ (by rw [itt_len itt0_ok]; rfl)] at M41
    refine WL.nil ?_
    refine WX.next (?_)
    refine WC.seq ?_
    refine WC.seq ?_
    refine WC.region ?_
    refine WL.ex rfl rfl rfl (Ex.mv rfl) ?_
    refine WL.ac rfl rfl rfl (Ac.call rfl Tryd.func66 nm66 rfl (rErr_ok w41 _ _ _ _ (M41.get (i := 2) rfl))) ?_; rintro v43 w43 ⟨rfl, rfl⟩
    refine WL.ex rfl rfl rfl (Ex.eqI rfl rfl) ?_
    refine WL.nil ?_
    refine WX.next (?_)
    
    refine WC.no (congrArg (fun b => some (Value.bool b)) (decide_eq_false hk2)) ?_
    refine WC.skip ?_
    refine WX.next (?_)
    refine WC.seq ?_
    refine WC.seq ?_
    refine WC.region ?_
    refine WL.ex rfl rfl rfl (Ex.mv rfl) ?_
    refine WL.ac rfl rfl rfl (Ac.call rfl Tryd.func66 nm66 rfl (rErr_ok w43 _ _ _ _ (M41.get (i := 2) rfl))) ?_; rintro v46 w46 ⟨rfl, rfl⟩
    refine WL.ex rfl rfl rfl (Ex.neI rfl rfl) ?_
    refine WL.nil ?_
    refine WX.next (?_)
    
    refine WC.yes (congrArg (fun b => some (Value.bool !b)) (decide_eq_false hk2)) ?_
    refine WC.seq ?_
    refine WC.region ?_
    refine WL.ex rfl rfl rfl (Ex.bld bd57 (parts := []) (l := ittC itt0) rfl rfl rfl rfl) ?_
    refine WL.ac0 rfl rfl (Ac.stA M41 ty57 rfl rfl (vs := ittC itt0) rfl rfl itt_one (i := 1) rfl (Nat.le_refl _)) ?_; rintro v49 w49 ⟨K49, M49⟩
    try dsimp only [List.set] at M49
    rw [splice_all _ _ rfl] at M49
    refine WL.nil ?_
    refine WX.next (?_)
    refine WC.ret ?_
    refine WX.ret_then (?_)
    refine WX.retc rfl rfl (run_loadVarA ty57 (by first | rfl | exact itt_len hx) (M49.rdw (i := 1) rfl)) ?_
    rw [iGet_short (s := (l, e)) hc, ← hk1]
    exact ⟨rfl, (Mem.sub M49 (.cons _ (.cons _ (.refl _)))).toTurn⟩

/- sponsion/sponsionlaw07.lives -/
theorem lives07_ok (w : World) :
    Gives Tryd.prog 32 #[] w fun u w1 => u = .bool true ∧ Keep nof w w1 := by
  have M0 := Mem.start w nof
  have hx : IttOk ⟨1, 2, 3, [4, 0, 0, 0]⟩ := ⟨by decide, by decide, by decide, ⟨rfl, fun i => by match i with | 0 => decide | 1 => decide | 2 => decide | 3 => decide | _ + 4 => simp⟩⟩
  refine Gives.enter (n := 32) Tryd.func32 rfl Tryd.ntmps32 rfl (env := []) rfl ?_
  refine WC.seq ?_
  refine WC.region ?_
  refine WL.ex rfl rfl rfl (Ex.asg rfl) ?_
  refine WL.nil ?_
  refine WX.next (?_)
  refine WC.seq ?_
  refine WC.region ?_
  refine WL.ex rfl rfl rfl (Ex.bld bd55 (parts := [(0, .const (.int .u64 4))]) (l := intV [4, 0, 0, 0]) rfl rfl rfl rfl) ?_
  refine WL.ex rfl rfl rfl (Ex.bldS bd57 (parts := [(0, .const (.int .u32 1)), (1, .const (.int .u8 2)), (2, .const (.int .u8 3)), (3, .tmp 2)]) _ rfl rfl rfl (bldItt (ix := 1) (tk := 2) (ow := 3) (am := [4, 0, 0, 0]) rfl)) ?_
  refine WL.ac rfl rfl rfl (Ac.call rfl Tryd.func33 nm33 rfl (iBytes_ok w _ hx)) ?_; rintro v4 w4 N4
  have M4 := M0.new N4
  rw [show (ittB ⟨1, 2, 3, [4, 0, 0, 0]⟩).length = 38 from rfl] at M4
  obtain ⟨A4, c4, rfl⟩ := own_slice (M4.get (i := 0) rfl)
  obtain ⟨ga, rfl⟩ := own_some (M4.get (i := 0) rfl) (by decide)
  refine WL.ex rfl rfl rfl (Ex.asg rfl) ?_
  refine WL.nil ?_
  refine WX.next (?_)
  refine WC.seq ?_
  refine WC.region ?_
  refine WL.ex rfl rfl rfl (Ex.mv rfl) ?_
  refine WL.ex rfl rfl rfl (Ex.len Tryd.underlying22 rfl) ?_
  refine WL.ex rfl rfl rfl (Ex.eqI rfl rfl) ?_
  
  refine WL.ex rfl rfl rfl (Ex.mv rfl) ?_
  refine WL.yes rfl rfl rfl rfl ?_
  refine WL.ex rfl rfl rfl (Ex.mv rfl) ?_
  refine WL.yes rfl rfl rfl rfl ?_
  refine WL.ex rfl rfl rfl (Ex.ia Tryd.underlying22 sz5 rfl rfl ⟨by decide, by decide⟩) ?_
  refine WL.yes rfl rfl rfl rfl ?_
  refine WL.ex rfl rfl rfl (Ex.load ty5 rfl (Rd.at1 (u := .int .u8 1) (M4.rdr (i := 0) rfl) (j := (3 : Int).toNat * 1) rfl)) ?_
  refine WL.yes rfl rfl rfl rfl ?_
  refine WL.ex rfl rfl rfl (Ex.eqI rfl rfl) ?_
  
  refine WL.ex rfl rfl rfl (Ex.pickT rfl rfl) ?_
  refine WL.ex rfl rfl rfl (Ex.mv rfl) ?_
  refine WL.yes rfl rfl rfl rfl ?_
  refine WL.ex rfl rfl rfl (Ex.mv rfl) ?_
  refine WL.yes rfl rfl rfl rfl ?_
  refine WL.ex rfl rfl rfl (Ex.ia Tryd.underlying22 sz5 rfl rfl ⟨by decide, by decide⟩) ?_
  refine WL.yes rfl rfl rfl rfl ?_
  refine WL.ex rfl rfl rfl (Ex.load ty5 rfl (Rd.at1 (u := .int .u8 2) (M4.rdr (i := 0) rfl) (j := (4 : Int).toNat * 1) rfl)) ?_
  refine WL.yes rfl rfl rfl rfl ?_
  refine WL.ex rfl rfl rfl (Ex.eqI rfl rfl) ?_
  
  refine WL.ex rfl rfl rfl (Ex.pickT rfl rfl) ?_
  refine WL.ex rfl rfl rfl (Ex.mv rfl) ?_
  refine WL.yes rfl rfl rfl rfl ?_
  refine WL.ex rfl rfl rfl (Ex.mv rfl) ?_
  refine WL.yes rfl rfl rfl rfl ?_
  refine WL.ex rfl rfl rfl (Ex.ia Tryd.underlying22 sz5 rfl rfl ⟨by decide, by decide⟩) ?_
  refine WL.yes rfl rfl rfl rfl ?_
  refine WL.ex rfl rfl rfl (Ex.load ty5 rfl (Rd.at1 (u := .int .u8 3) (M4.rdr (i := 0) rfl) (j := (5 : Int).toNat * 1) rfl)) ?_
  refine WL.yes rfl rfl rfl rfl ?_
  refine WL.ex rfl rfl rfl (Ex.eqI rfl rfl) ?_
  
  refine WL.ex rfl rfl rfl (Ex.pickT rfl rfl) ?_
  refine WL.ex rfl rfl rfl (Ex.mv rfl) ?_
  refine WL.yes rfl rfl rfl rfl ?_
  refine WL.ex rfl rfl rfl (Ex.mv rfl) ?_
  refine WL.yes rfl rfl rfl rfl ?_
  refine WL.ex rfl rfl rfl (Ex.ia Tryd.underlying22 sz5 rfl rfl ⟨by decide, by decide⟩) ?_
  refine WL.yes rfl rfl rfl rfl ?_
  refine WL.ex rfl rfl rfl (Ex.load ty5 rfl (Rd.at1 (u := .int .u8 4) (M4.rdr (i := 0) rfl) (j := (37 : Int).toNat * 1) rfl)) ?_
  refine WL.yes rfl rfl rfl rfl ?_
  refine WL.ex rfl rfl rfl (Ex.eqI rfl rfl) ?_
  
  refine WL.ex rfl rfl rfl (Ex.pickT rfl rfl) ?_
  refine WL.ex rfl rfl rfl (Ex.asg rfl) ?_
  refine WL.nil ?_
  refine WX.next (?_)
  refine WC.ret ?_
  refine WX.ret1 rfl rfl ?_
  exact ⟨rfl, M4.keep⟩

/-- The end's error: the first one, or that bytes are left. -/
def endE (s : RS) : Int := if s.2 = 0 ∧ s.1 ≠ [] then 5 else s.2
theorem endE_0 {s : RS} (h : endE s = 0) : s.2 = 0 ∧ s.1 = [] := by
  unfold endE at h
  split at h
  · cases h
  · rename_i h2
    refine ⟨h, ?_⟩
    by_cases h3 : s.1 = []
    · exact h3
    · exact absurd ⟨h, h3⟩ h2
/-- What an intent is read as, off bytes. -/
def iRead (b : List UInt8) : Itt × Int := if endE (iGet (b, 0)).2 ≠ 0 then (itt0, endE (iGet (b, 0)).2) else ((iGet (b, 0)).1, 0)
theorem iRead_ok (b : List UInt8) : IttOk (iRead b).1 := by
  by_cases h : endE (iGet (b, 0)).2 ≠ 0
  · rw [iRead, if_pos h]; exact itt0_ok
  · rw [iRead, if_neg h]; exact iGet_ok _
theorem rTake_short {l : List UInt8} {e : Int} {n : Nat} (h0 : e ≠ 0 → l = []) (hn : 0 < n) (h : ¬ (e = 0 ∧ n ≤ l.length)) : rTake (l, e) n = ([], rFail (l, e) 4) := by
  rw [rTake, if_pos]
  by_cases he : e = 0
  · simp only [he, true_and] at h; simp only; omega
  · rw [h0 he]; simpa using hn
theorem ittB_of {b : List UInt8} (h : b.length = 38) : ittB (ittOf b) = b := by
  obtain ⟨A, B, C, D, L, hA, hB, hC, hD, rfl⟩ := split38 (l := b) (by omega)
  have hL : L = [] := by
    apply List.eq_nil_of_length_eq_zero
    simp [hA, hB, hC, hD] at h
    omega
  subst hL
  rw [List.append_nil, ittOf_app hA hB hC, ittB]
  have e1 := be_beVal A
  have e2 := be_beVal B
  have e3 := be_beVal C
  rw [hA] at e1
  rw [hB] at e2
  rw [hC] at e3
  simp only [e1, e2, e3, intB_ofB hD]
theorem iRead_bytes {b : List UInt8} (h : (iRead b).2 = 0) : ittB (iRead b).1 = b := by
  by_cases hne : endE (iGet (b, 0)).2 ≠ 0
  · rw [iRead, if_pos hne] at h; exact absurd h hne
  · rw [iRead, if_neg hne]
    have h1 := endE_0 (Decidable.not_not.1 hne)
    clear h hne
    obtain ⟨h2, h3⟩ := h1
    unfold iGet at h2 h3 ⊢
    split at h2
    · rename_i hc
      rw [if_pos hc] at h3 ⊢
      split at h2
      · rename_i hm
        rw [if_pos hm] at h3 ⊢
        have hl : b.length = 38 := by
          have := congrArg List.length h3
          have := hc.2
          simp at *
          omega
        simp only
        rw [List.take_of_length_le (by omega)]
        exact ittB_of hl
      · cases h2
    · rename_i hc
      simp [rFail] at h2

/- sponsion/intent.Read -/
theorem iRead_walk (w : World) (A : Option Addr) (c : Nat) (l : List UInt8) (hr : Rd w A (bytesV l)) (hb : l.length ≤ 70368744177664) :
    Gives Tryd.prog 36 #[.slice A l.length c] w fun u w1 => u = .tuple #[.agg (ittC (iRead l).1).toArray, .int .i64 (iRead l).2] ∧ Keep nof w w1 := by
  have M0 := Mem.start w nof
  have hx := iGet_ok (l, 0)
  refine Gives.enter (n := 18) Tryd.func36 rfl Tryd.ntmps36 rfl (env := [(0, .slice A l.length c)]) rfl ?_
  refine WC.seq ?_
  refine WC.region ?_
  refine WL.ac rfl rfl rfl (Ac.alloc M0 (l := ittC itt0) (by kernel_rfl)) ?_; rintro v1 w1 ⟨go, rfl, hg1, K1, M1⟩
  refine WL.ex rfl rfl rfl (Ex.asg rfl) ?_
  refine WL.nil ?_
  refine WX.next (?_)
  refine WC.seq ?_
  refine WC.region ?_
  refine WL.ex rfl rfl rfl (Ex.mv rfl) ?_
  refine WL.ac rfl rfl rfl (Ac.call rfl Tryd.func54 nm54 rfl (of_ok w1 _ _ _ (M1.rd hr) hb)) ?_; rintro v4 w4 ⟨gr, D, rfl, N4⟩
  have M4 := M1.new N4
  refine WL.ex rfl rfl rfl (Ex.asg rfl) ?_
  refine WL.nil ?_
  refine WX.next (?_)
  refine WC.seq ?_
  refine WC.region ?_
  refine WL.ex rfl rfl rfl (Ex.mv rfl) ?_
  refine WL.ac rfl rfl rfl (Ac.call rfl Tryd.func55 nm55 rfl (iGet_walk w4 _ _ _ _ (M4.get (i := 0) rfl) (fun h => absurd rfl h))) ?_; rintro v7 w7 ⟨rfl, T7⟩
  have M7 := M4.turned (i := 0) rfl T7
  try dsimp only [List.set] at M7
  refine WL.ac rfl rfl rfl (Ac.alloc M7 (l := ittC itt0) (by kernel_rfl)) ?_; rintro v8 w8 ⟨gx, rfl, hg8, K8, M8⟩
  refine WL.ac0 rfl rfl (Ac.stA M8 ty57 rfl rfl (vs := ittC (iGet (l, 0)).1) rfl (itt_len hx) itt_one (i := 0) rfl (by rw [itt_len hx, itt_len itt0_ok]; decide)) ?_; rintro v9 w9 ⟨K9, M9⟩
  try dsimp only [List.set] at M9
  rw [splice_all _ _ (by rw [itt_len hx, itt_len itt0_ok])] at M9
  refine WL.nil ?_
  refine WX.next (?_)
  refine WC.seq ?_
  refine WC.seq ?_
  refine WC.region ?_
  refine WL.ex rfl rfl rfl (Ex.mv rfl) ?_
  refine WL.ac rfl rfl rfl (Ac.call rfl Tryd.func56 nm56 rfl (rEnd_ok w9 _ _ (iGet (l, 0)).2.1 (iGet (l, 0)).2.2 (M9.get (i := 1) rfl))) ?_; rintro v11 w11 ⟨rfl, rfl⟩
  obtain ⟨e, he⟩ : ∃ e, e = endE (iGet (l, 0)).2 := ⟨_, rfl⟩
  rw [show (if (iGet (l, 0)).2.2 = 0 ∧ (iGet (l, 0)).2.1 ≠ [] then 5 else (iGet (l, 0)).2.2) = e from he.symm]
  refine WL.ex rfl rfl rfl (Ex.asg rfl) ?_
  refine WL.nil ?_
  refine WX.next (?_)
  refine WC.seq ?_
  refine WC.region ?_
  refine WL.ex rfl rfl rfl (Ex.mv rfl) ?_
  refine WL.ex rfl rfl rfl (Ex.neI rfl rfl) ?_
  refine WL.nil ?_
  refine WX.next (?_)
  refine WC.cond rfl (fun hq => ?_) (fun hq => ?_)
  · have hq2 : e ≠ 0 := by simpa using hq
    have hR : iRead l = (itt0, e) := by rw [iRead, ← he, if_pos hq2]
    refine WC.seq ?_
    refine WC.region ?_
    refine WL.ex rfl rfl rfl (Ex.bld bd57 (parts := []) (l := ittC itt0) rfl rfl rfl rfl) ?_
    refine WL.ex rfl rfl rfl (Ex.mv rfl) ?_
    refine WL.ac0 rfl rfl (Ac.stA M9 ty57 rfl rfl (vs := ittC itt0) rfl rfl itt_one (i := 2) rfl (Nat.le_refl _)) ?_; rintro v17 w17 ⟨K17, M17⟩
    try dsimp only [List.set] at M17
    rw [splice_all _ _ rfl] at M17
    refine WL.ex rfl rfl rfl (Ex.asg rfl) ?_
    refine WL.nil ?_
    refine WX.next (?_)
    refine WC.ret ?_
    refine WX.ret_then (?_)
    refine WX.retn rfl (.cell rfl (run_loadVarA ty57 (by first | rfl | exact itt_len hx) (M17.rdw (i := 2) rfl)) (.tmp rfl .nil)) rfl ?_
    rw [hR]
    exact ⟨rfl, M17.keep⟩
  · have hq2 : e = 0 := by simpa using hq
    have hR : iRead l = ((iGet (l, 0)).1, 0) := by rw [iRead, ← he, if_neg (fun h => h hq2)]
    refine WC.skip ?_
    refine WX.next (?_)
    refine WC.seq ?_
    refine WC.region ?_
    refine WL.ex rfl rfl rfl (Ex.loadA ty57 rfl (l := ittC (iGet (l, 0)).1) (itt_len hx) (M9.rdw (i := 0) rfl)) ?_
    refine WL.ac0 rfl rfl (Ac.stA M9 ty57 rfl rfl (vs := ittC (iGet (l, 0)).1) rfl (itt_len hx) itt_one (i := 2) rfl (by rw [itt_len hx, itt_len itt0_ok]; decide)) ?_; rintro v20 w20 ⟨K20, M20⟩
    try dsimp only [List.set] at M20
    rw [splice_all _ _ (by rw [itt_len hx, itt_len itt0_ok])] at M20
    refine WL.ex rfl rfl rfl (Ex.asg rfl) ?_
    refine WL.nil ?_
    refine WX.next (?_)
    refine WC.ret ?_
    refine WX.retn rfl (.cell rfl (run_loadVarA ty57 (by first | rfl | exact itt_len hx) (M20.rdw (i := 2) rfl)) (.tmp rfl .nil)) rfl ?_
    rw [hR]
    exact ⟨rfl, M20.keep⟩

/-- A slice of intents that can be read. -/
structure RdT (w : World) (A : Option Addr) (ts : List Itt) : Prop where
  row : Rd w A (ts.flatMap ittC)
  ok : ∀ t ∈ ts, IttOk t
theorem RdT.keep {w w' : World} {A : Option Addr} {ts : List Itt} (h : RdT w A ts) (k : Keep nof w w') : RdT w' A ts := ⟨h.row.keep0 k, h.ok⟩
theorem RdT.plain {w : World} {A : Option Addr} {ts : List Itt} (h : RdT w A ts) {i : Nat} {p : Itt} (hp : ts[i]? = some p) : ∃ b o, A = some ⟨b, o, none⟩ :=
  h.row.flat_plain (List.mem_of_getElem? hp) (by rw [itt_len (h.ok p (List.mem_of_getElem? hp))]; omega)
theorem itts_snoc {ts : List Itt} {i : Nat} {p : Itt} (h : ts[i]? = some p) : (ts.take (i + 1)).flatMap ittB = (ts.take i).flatMap ittB ++ ittB p := by rw [take_snoc h]; simp
theorem itts_cons {ts : List Itt} {i : Nat} {p : Itt} (h : ts[i]? = some p) : (ts.drop i).flatMap ittB = ittB p ++ (ts.drop (i + 1)).flatMap ittB := by
  obtain ⟨h1, h2⟩ := List.getElem?_eq_some_iff.1 h
  rw [List.drop_eq_getElem_cons h1, h2]; simp
theorem itts_len (ts : List Itt) : (ts.flatMap ittB).length = 38 * ts.length := by
  induction ts with
  | nil => rfl
  | cons a r ih => simp only [List.flatMap_cons, List.length_append, ittB_len, List.length_cons, ih]; omega
theorem iGet_B {t : Itt} {L : List UInt8} (h : IttOk t) : iGet (ittB t ++ L, 0) = if mayI t then (t, (L, 0)) else (itt0, ([], 6)) := by
  have := iGet_app (A := be 4 t.ix) (B := be 1 t.tk) (C := be 1 t.ow) (D := intB t.am) (L := L) (by simp) (by simp) (by simp) (by simp)
  rw [beVal_be' (by have := h.ix; omega), beVal_be' (by have := h.tk; omega), beVal_be' (by have := h.ow; omega), ofB_intB h.am] at this
  simpa only [ittB, List.append_assoc] using this
theorem iGet_6 : iGet ([], 6) = (itt0, ([], 6)) := by rw [iGet_short (by decide)]; rfl
theorem iGet_nil : iGet ([], 0) = (itt0, ([], 4)) := by rw [iGet_short (by decide)]; rfl
theorem iGet_err {s : RS} (h : (iGet s).2.2 ≠ 0) : (iGet s).1 = itt0 := by
  unfold iGet at h ⊢
  split at h
  · rename_i hc
    rw [if_pos hc]
    split at h
    · exact absurd rfl h
    · rename_i hm; rw [if_neg hm]
  · rename_i hc
    rw [if_neg hc]
abbrev ittKs : List CK := [.int .u32, .int .u8, .int .u8, .int .u64, .int .u64, .int .u64, .int .u64]
theorem itt_view {w : World} {vs : List Value} (h : CK.oks w ittK vs) : ∃ t, vs = ittC t ∧ IttOk t := by
  obtain ⟨v0, r0, rfl, h0, v1, r1, rfl, h1, v2, r2, rfl, h2, h3⟩ := h
  obtain ⟨ix, hix, rfl⟩ := ok_u32 h0
  obtain ⟨tk, htk, rfl⟩ := ok_u8n h1
  obtain ⟨ow, how, rfl⟩ := ok_u8n h2
  obtain ⟨a, ha, hab, rfl⟩ := oks_u64s 4 _ h3
  exact ⟨⟨ix, tk, ow, a⟩, rfl, hix, htk, how, int4_of ha hab⟩
theorem ok_itts {w : World} {v : Value} (h : CK.ok w (.sl ittK) v) : ∃ A c, ∃ ts : List Itt, v = .slice A ts.length c ∧ ts.length ≤ c ∧ c ≤ maxLen ∧ RdT w A ts := by
  obtain ⟨A, c, ts, h1, h2, h3, h4, h5⟩ := sl_view h ittC _ (fun vs hv => itt_view hv)
  exact ⟨A, c, ts, h1, h2, h3, h4, h5⟩

theorem itt_g0 {t : Itt} (h : IttOk t) : (ittC t)[0]? = some (.int .u32 (t.ix : Int)) := rfl
theorem itt_g1 {t : Itt} (h : IttOk t) : (ittC t)[1]? = some (.int .u8 (t.tk : Int)) := rfl
theorem itt_g2 {t : Itt} (h : IttOk t) : (ittC t)[2]? = some (.int .u8 (t.ow : Int)) := rfl
theorem itt_g3 {t : Itt} (h : IttOk t) : ((ittC t).drop 3).take 4 = intV t.am := itt_3 h
theorem ittB_inj {x y : Itt} (hx : IttOk x) (hy : IttOk y) : ittB x = ittB y ↔ x = y := ⟨fun h => by rw [← ittOf_B hx, h, ittOf_B hy], fun h => by rw [h]⟩
theorem iRead_B {x : Itt} (h : IttOk x) : iRead (ittB x) = if mayI x then (x, 0) else (itt0, 6) := by
  have hg := iGet_B (L := []) h
  rw [List.append_nil] at hg
  unfold iRead
  rw [hg]
  by_cases hm : mayI x
  · simp [hm, endE]
  · simp [hm, endE]
def iID (x : Itt) : List UInt8 := dOf 3 [ittB x]
def iLeaf (x : Itt) : List UInt8 := dLeaf (ittB x)
theorem iID_len (x : Itt) : H32 (iID x) := sha_length _
theorem iLeaf_len (x : Itt) : H32 (iLeaf x) := sha_length _

end Go.Proofs.YtfncnpnjhcaphaaDoor
