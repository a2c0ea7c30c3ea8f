/- Walks, written by gen.py off the translation's own print: each says what the Go function comes to. -/
import Derived.Test.YtpngjgcbdaogmaaWl
set_option linter.unusedVariables false
set_option linter.unusedSimpArgs false
namespace Go.Proofs.Ytpngjgcbdaogmaa
open Go.Sx Go.RowKit
attribute [local irreducible] Ac Ex WL WC WX WP Gives

theorem iGet_app {A B C D L : List UInt8} (hA : A.length = 4) (hB : B.length = 1) (hC : C.length = 1) (hD : D.length = 32) :
    iGet (A ++ (B ++ (C ++ (D ++ L))), 0) = if mayI ⟨beVal A, beVal B, beVal C, ofB D⟩ then (⟨beVal A, beVal B, beVal C, ofB D⟩, (L, 0)) else (itt0, ([], 6)) := by
  obtain ⟨h1, h2⟩ := take38 (L := L) hA hB hC hD
  rw [iGet, if_pos ⟨rfl, by simp [hA, hB, hC, hD]; omega⟩]
  simp only [h1, h2, ittOf_app hA hB hC]
theorem iGet_short {s : RS} (h : ¬ (s.2 = 0 ∧ 38 ≤ s.1.length)) : iGet s = (itt0, rFail s 4) := by rw [iGet, if_neg h]
theorem may_or (t : Itt) : (if mayI t then (0 : Int) else 6) = 0 ↔ mayI t := by split <;> simp_all

/- sponsion/intent.Put -/
theorem iPut_ok (w : World) (g : Nat) (v : Value) (l : List UInt8) (t : Itt) (h : (wrR g v l).sat w) (ht : IttOk t) (hb : l.length ≤ 17592186044416) :
    Gives Try.prog 42 #[.pointer (some ⟨g, 0, none⟩), .agg (ittC t).toArray] w fun _ w1 => ∃ v1, Turn w w1 (wrR g v l) (wrR g v1 (l ++ ittB t)) := by
  have M0 := Mem.begin h
  have htx := ht.ix
  have htt := ht.tk
  have hto := ht.ow
  have hta := ht.am
  refine Gives.enter (n := 17) Try.func42 rfl Try.ntmps42 rfl (env := [(0, .pointer (some ⟨g, 0, none⟩)), (1, .agg (ittC t).toArray)]) rfl ?_
  refine WC.seq ?_
  refine WC.region ?_
  refine WL.ac rfl rfl rfl (Ac.box M0 (l := ittC t) rfl rfl) ?_; rintro v1 w1 ⟨gi, rfl, hg1, K1, M1⟩
  refine WL.nil ?_
  refine WX.next (?_)
  have hne : gi ∉ (wrR g v l).fp := M1.apart (i := 0) (j := 1) rfl rfl (by decide) _ (by simp [blk])
  refine WC.draw (Keep (· ∈ (wrR g v l).fp) w1.drew) [] (.one 0 0 (.one 1 0 (.one 4 0 (.one 7 0 (.one 10 0 (.one 2 1 (.one 5 1 (.one 8 1 (.one 11 1 (.one 3 2 (.one 6 2 (.one 9 2 (.one 12 2 .nil))))))))))))) mixed (by kernel_rfl) (by kernel_rfl) (by kernel_rfl) HQ.body ?_
  obtain ⟨w2, hw2⟩ : ∃ v, v = w1.drew := ⟨_, rfl⟩
  have D2 : Keep nof w1 w2 := by rw [hw2]; exact Keep.drew _ _
  have M2 := M1.step D2
  rw [← hw2]; clear hw2
  refine WP.p rfl rfl rfl rfl (fun _ => Ex.mv rfl) ?_
  refine WP.p rfl rfl rfl rfl (fun _ => Ex.fa fl72_0 rfl) ?_
  refine WP.p rfl rfl rfl rfl (fun _ => Ex.fa fl72_1 rfl) ?_
  refine WP.p rfl rfl rfl rfl (fun _ => Ex.fa fl72_2 rfl) ?_
  refine WP.p rfl rfl rfl rfl (fun _ => Ex.fa fl72_3 rfl) ?_
  refine WP.q (Keep.refl _ _) rfl rfl rfl rfl (fun w' hS => Ex.load ty43 rfl (hS.cell (M2.cell (i := 0) (v := .int .u32 (t.ix : Int)) rfl rfl) hne)) ?_
  refine WP.q (Keep.refl _ _) rfl rfl rfl rfl (fun w' hS => Ex.load ty5 rfl (hS.cell (M2.cell (i := 0) (v := .int .u8 (t.tk : Int)) rfl rfl) hne)) ?_
  refine WP.q (Keep.refl _ _) rfl rfl rfl rfl (fun w' hS => Ex.load ty5 rfl (hS.cell (M2.cell (i := 0) (v := .int .u8 (t.ow : Int)) rfl rfl) hne)) ?_
  refine WP.q (Keep.refl _ _) rfl rfl rfl rfl (fun w' hS => Ex.loadA ty35 rfl (l := intV t.am) (by simpa using hta.1) ((M2.rdt (i := 0) rfl (itt_3 ht)).keep hS (fun a ha => by cases ha; exact hne))) ?_
  refine WP.a rfl rfl rfl rfl (Ac.call rfl Try.func20 nm20 rfl (wU32_ok w2 _ _ _ _ (M2.get (i := 1) rfl) (by first | omega | decide) (by first | (simp; done) | (simp; omega) | omega))) ?_; rintro v12 w12 ⟨rfl, v12, T12⟩; refine .inr ⟨fun _ => T12.keep, ?_⟩
  have M12 := M2.turned (i := 1) rfl T12
  try dsimp only [List.set] at M12
  refine WP.a rfl rfl rfl rfl (Ac.call rfl Try.func18 nm18 rfl (wU8_ok w12 _ _ _ _ (M12.get (i := 1) rfl) (by first | omega | decide) (by first | (simp; done) | (simp; omega) | omega))) ?_; rintro v13 w13 ⟨rfl, v13, T13⟩; refine .inr ⟨fun _ => (T12.trans T13).keep, ?_⟩
  have M13 := M12.turned (i := 1) rfl T13
  try dsimp only [List.set] at M13
  refine WP.a rfl rfl rfl rfl (Ac.call rfl Try.func18 nm18 rfl (wU8_ok w13 _ _ _ _ (M13.get (i := 1) rfl) (by first | omega | decide) (by first | (simp; done) | (simp; omega) | omega))) ?_; rintro v14 w14 ⟨rfl, v14, T14⟩; refine .inr ⟨fun _ => ((T12.trans T13).trans T14).keep, ?_⟩
  have M14 := M13.turned (i := 1) rfl T14
  try dsimp only [List.set] at M14
  refine WP.a rfl rfl rfl rfl (Ac.call rfl Try.func22 nm22 rfl (wInt_ok w14 _ _ _ _ (M14.get (i := 1) rfl) ‹_› (by first | (simp; done) | (simp; omega) | omega))) ?_; rintro v15 w15 ⟨rfl, v15, T15⟩; refine .inr ⟨fun _ => (((T12.trans T13).trans T14).trans T15).keep, ?_⟩
  have M15 := M14.turned (i := 1) rfl T15
  try dsimp only [List.set] at M15
  refine WP.nil ?_
  refine WX.end0 rfl ?_
  have Me := (Mem.sub M15 (.cons _ (.refl _))).toTurn
  exact ⟨_, by simpa only [ittB, List.append_assoc] using Me⟩

/- sponsion/intent.Bytes -/
theorem iBytes_ok (w : World) (t : Itt) (ht : IttOk t) :
    Gives Try.prog 47 #[.agg (ittC t).toArray] w fun u w1 => New w w1 (row u 5 1 (ittB t).length (bytesV (ittB t))) := by
  have M0 := Mem.start w nof
  refine Gives.enter (n := 11) Try.func47 rfl Try.ntmps47 rfl (env := [(0, .agg (ittC t).toArray)]) rfl ?_
  refine WC.seq ?_
  refine WC.region ?_
  refine WL.ac rfl rfl rfl (Ac.box M0 (l := ittC t) rfl rfl) ?_; rintro v1 w1 ⟨gi, rfl, hg1, K1, M1⟩
  refine WL.ex rfl rfl rfl (Ex.asg rfl) ?_
  refine WL.nil ?_
  refine WX.next (?_)
  refine WC.seq ?_
  refine WC.region ?_
  refine WL.ex rfl rfl rfl (Ex.bld bd32 (parts := []) rfl rfl rfl rfl) ?_
  refine WL.ac rfl rfl rfl (Ac.box (M1.free (r := row (.slice none 0 0) 5 1 ([] : List UInt8).length (bytesV [])) (row_nil _ _ _) rfl) rfl rfl) ?_; rintro v4 w4 ⟨gw, rfl, hg4, K4, M4⟩
  replace M4 := M4.close1 (fun v => [v])
  refine WL.ex rfl rfl rfl (Ex.asg rfl) ?_
  refine WL.nil ?_
  refine WX.next (?_)
  refine WC.seq ?_
  refine WC.region ?_
  refine WL.ex rfl rfl rfl (Ex.mv rfl) ?_
  refine WL.ex rfl rfl rfl (Ex.loadA ty72 rfl (l := ittC t) (itt_len ht) (M4.rdw (i := 1) rfl)) ?_
  refine WL.ac rfl rfl rfl (Ac.call rfl Try.func42 nm42 rfl (iPut_ok w4 _ _ [] _ (M4.get (i := 0) rfl) ht (by simp))) ?_; rintro v8 w8 ⟨v8, T8⟩
  have M8 := M4.turned (i := 0) rfl T8
  try dsimp only [List.set] at M8
  rw [List.nil_append] at M8
  refine WL.nil ?_
  refine WX.next (?_)
  refine WC.seq ?_
  refine WC.region ?_
  refine WL.ex rfl rfl rfl (Ex.mv rfl) ?_
  refine WL.ac rfl rfl rfl (Ac.call rfl Try.func26 nm26 rfl (wBytes_ok w8 _ _ _ (M8.get (i := 0) rfl) (by first | (simp; done) | (simp; omega) | omega))) ?_; rintro v10 w10 N10
  have M10 := M8.new N10
  obtain ⟨A10, c10, rfl⟩ := own_slice (M10.get (i := 0) rfl)
  refine WL.ex rfl rfl rfl (Ex.asg rfl) ?_
  refine WL.nil ?_
  refine WX.next (?_)
  refine WC.ret ?_
  refine WX.ret1 rfl rfl ?_
  exact M10.toNew

/- sponsion/sponsionref07.May -/
theorem may7_ok (w : World) (t : Itt) (ht : IttOk t) :
    Gives Try.prog 43 #[.agg (ittC t).toArray] w fun u w1 => u = .bool (decide (mayI t)) ∧ Keep nof w w1 := by
  obtain ⟨ix, tk, ow, am⟩ := t
  have hta := ht.am
  have htt := ht.tk
  have hto := ht.ow
  dsimp only at hta htt hto
  obtain ⟨p, q, r, s, rfl⟩ := len4 hta.1
  have M0 := Mem.start w nof
  refine Gives.enter (n := 35) Try.func43 rfl Try.ntmps43 rfl (env := [(0, .agg (ittC ⟨ix, tk, ow, [p, q, r, s]⟩).toArray)]) rfl ?_
  refine WC.seq ?_
  refine WC.region ?_
  refine WL.ac rfl rfl rfl (Ac.box M0 (l := ittC ⟨ix, tk, ow, [p, q, r, s]⟩) rfl rfl) ?_; rintro v1 w1 ⟨gi, rfl, hg1, K1, M1⟩
  refine WL.ex rfl rfl rfl (Ex.asg rfl) ?_
  refine WL.nil ?_
  refine WX.next (?_)
  refine WC.seq ?_
  refine WC.region ?_
  refine WL.ex rfl rfl rfl (Ex.fa fl72_1 rfl) ?_
  refine WL.ex rfl rfl rfl (Ex.load ty5 rfl (M1.cell (i := 0) rfl rfl)) ?_
  refine WL.ex rfl rfl rfl (Ex.leq rfl rfl) ?_
  by_cases h1 : (tk : Int) ≤ 3
  · rw [decide_eq_true h1]
    refine WL.ex rfl rfl rfl (Ex.mv rfl) ?_
    refine WL.yes rfl rfl rfl rfl ?_
    refine WL.ex rfl rfl rfl (Ex.fa fl72_2 rfl) ?_
    refine WL.yes rfl rfl rfl rfl ?_
    refine WL.ex rfl rfl rfl (Ex.load ty5 rfl (M1.cell (i := 0) rfl rfl)) ?_
    refine WL.yes rfl rfl rfl rfl ?_
    refine WL.ex rfl rfl rfl (Ex.leq rfl rfl) ?_
    by_cases h2 : (ow : Int) ≤ 15
    · rw [decide_eq_true h2]
      refine WL.ex rfl rfl rfl (Ex.pickT rfl rfl) ?_
      refine WL.ex rfl rfl rfl (Ex.mv rfl) ?_
      refine WL.yes rfl rfl rfl rfl ?_
      refine WL.ex rfl rfl rfl (Ex.fa fl72_3 rfl) ?_
      refine WL.yes rfl rfl rfl rfl ?_
      refine WL.ex rfl rfl rfl (Ex.iaA Try.underlying35 sz33 rfl rfl ⟨by omega, by omega⟩) ?_
      refine WL.yes rfl rfl rfl rfl ?_
      refine WL.ex rfl rfl rfl (Ex.load ty33 rfl (M1.cell (i := 0) rfl rfl)) ?_
      refine WL.yes rfl rfl rfl rfl ?_
      refine WL.ex rfl rfl rfl (Ex.gtr rfl rfl) ?_
      by_cases h3 : (0 : Int) < p
      · rw [decide_eq_true h3]
        refine WL.yes rfl rfl rfl rfl ?_
        refine WL.ex rfl rfl rfl (Ex.mv rfl) ?_
        refine WL.no rfl rfl rfl rfl rfl rfl ?_
        refine WL.no rfl rfl rfl rfl rfl rfl ?_
        refine WL.no rfl rfl rfl rfl rfl rfl ?_
        refine WL.no rfl rfl rfl rfl rfl rfl ?_
        refine WL.yes rfl rfl rfl rfl ?_
        refine WL.ex rfl rfl rfl (Ex.pickT rfl rfl) ?_
        refine WL.yes rfl rfl rfl rfl ?_
        refine WL.ex rfl rfl rfl (Ex.mv rfl) ?_
        refine WL.no rfl rfl rfl rfl rfl rfl ?_
        refine WL.no rfl rfl rfl rfl rfl rfl ?_
        refine WL.no rfl rfl rfl rfl rfl rfl ?_
        refine WL.no rfl rfl rfl rfl rfl rfl ?_
        refine WL.yes rfl rfl rfl rfl ?_
        refine WL.ex rfl rfl rfl (Ex.pickT rfl rfl) ?_
        refine WL.yes rfl rfl rfl rfl ?_
        refine WL.ex rfl rfl rfl (Ex.mv rfl) ?_
        refine WL.no rfl rfl rfl rfl rfl rfl ?_
        refine WL.no rfl rfl rfl rfl rfl rfl ?_
        refine WL.no rfl rfl rfl rfl rfl rfl ?_
        refine WL.no rfl rfl rfl rfl rfl rfl ?_
        refine WL.yes rfl rfl rfl rfl ?_
        refine WL.ex rfl rfl rfl (Ex.pickT rfl rfl) ?_
        refine WL.ex rfl rfl rfl (Ex.pickT rfl rfl) ?_
        refine WL.ex rfl rfl rfl (Ex.asg rfl) ?_
        refine WL.nil ?_
        refine WX.next (?_)
        refine WC.ret ?_
        refine WX.ret1 rfl rfl ?_
        exact ⟨congrArg Value.bool (decide_eq_true (p := mayI _) ⟨by dsimp only; omega, by dsimp only; omega, fun h => by simp only [List.cons.injEq] at h; omega⟩).symm, M1.keep⟩
      · rw [decide_eq_false h3]
        refine WL.yes rfl rfl rfl rfl ?_
        refine WL.ex rfl rfl rfl (Ex.mv rfl) ?_
        refine WL.yes rfl rfl rfl rfl ?_
        refine WL.ex rfl rfl rfl (Ex.fa fl72_3 rfl) ?_
        refine WL.yes rfl rfl rfl rfl ?_
        refine WL.ex rfl rfl rfl (Ex.iaA Try.underlying35 sz33 rfl rfl ⟨by omega, by omega⟩) ?_
        refine WL.yes rfl rfl rfl rfl ?_
        refine WL.ex rfl rfl rfl (Ex.load ty33 rfl (M1.cell (i := 0) rfl rfl)) ?_
        refine WL.yes rfl rfl rfl rfl ?_
        refine WL.ex rfl rfl rfl (Ex.gtr rfl rfl) ?_
        by_cases h4 : (0 : Int) < q
        · rw [decide_eq_true h4]
          refine WL.yes rfl rfl rfl rfl ?_
          refine WL.ex rfl rfl rfl (Ex.pickF rfl rfl) ?_
          refine WL.yes rfl rfl rfl rfl ?_
          refine WL.ex rfl rfl rfl (Ex.mv rfl) ?_
          refine WL.no rfl rfl rfl rfl rfl rfl ?_
          refine WL.no rfl rfl rfl rfl rfl rfl ?_
          refine WL.no rfl rfl rfl rfl rfl rfl ?_
          refine WL.no rfl rfl rfl rfl rfl rfl ?_
          refine WL.yes rfl rfl rfl rfl ?_
          refine WL.ex rfl rfl rfl (Ex.pickT rfl rfl) ?_
          refine WL.yes rfl rfl rfl rfl ?_
          refine WL.ex rfl rfl rfl (Ex.mv rfl) ?_
          refine WL.no rfl rfl rfl rfl rfl rfl ?_
          refine WL.no rfl rfl rfl rfl rfl rfl ?_
          refine WL.no rfl rfl rfl rfl rfl rfl ?_
          refine WL.no rfl rfl rfl rfl rfl rfl ?_
          refine WL.yes rfl rfl rfl rfl ?_
          refine WL.ex rfl rfl rfl (Ex.pickT rfl rfl) ?_
          refine WL.ex rfl rfl rfl (Ex.pickT rfl rfl) ?_
          refine WL.ex rfl rfl rfl (Ex.asg rfl) ?_
          refine WL.nil ?_
          refine WX.next (?_)
          refine WC.ret ?_
          refine WX.ret1 rfl rfl ?_
          exact ⟨congrArg Value.bool (decide_eq_true (p := mayI _) ⟨by dsimp only; omega, by dsimp only; omega, fun h => by simp only [List.cons.injEq] at h; omega⟩).symm, M1.keep⟩
        · rw [decide_eq_false h4]
          refine WL.yes rfl rfl rfl rfl ?_
          refine WL.ex rfl rfl rfl (Ex.pickF rfl rfl) ?_
          refine WL.yes rfl rfl rfl rfl ?_
          refine WL.ex rfl rfl rfl (Ex.mv rfl) ?_
          refine WL.yes rfl rfl rfl rfl ?_
          refine WL.ex rfl rfl rfl (Ex.fa fl72_3 rfl) ?_
          refine WL.yes rfl rfl rfl rfl ?_
          refine WL.ex rfl rfl rfl (Ex.iaA Try.underlying35 sz33 rfl rfl ⟨by omega, by omega⟩) ?_
          refine WL.yes rfl rfl rfl rfl ?_
          refine WL.ex rfl rfl rfl (Ex.load ty33 rfl (M1.cell (i := 0) rfl rfl)) ?_
          refine WL.yes rfl rfl rfl rfl ?_
          refine WL.ex rfl rfl rfl (Ex.gtr rfl rfl) ?_
          by_cases h5 : (0 : Int) < r
          · rw [decide_eq_true h5]
            refine WL.yes rfl rfl rfl rfl ?_
            refine WL.ex rfl rfl rfl (Ex.pickF rfl rfl) ?_
            refine WL.yes rfl rfl rfl rfl ?_
            refine WL.ex rfl rfl rfl (Ex.mv rfl) ?_
            refine WL.no rfl rfl rfl rfl rfl rfl ?_
            refine WL.no rfl rfl rfl rfl rfl rfl ?_
            refine WL.no rfl rfl rfl rfl rfl rfl ?_
            refine WL.no rfl rfl rfl rfl rfl rfl ?_
            refine WL.yes rfl rfl rfl rfl ?_
            refine WL.ex rfl rfl rfl (Ex.pickT rfl rfl) ?_
            refine WL.ex rfl rfl rfl (Ex.pickT rfl rfl) ?_
            refine WL.ex rfl rfl rfl (Ex.asg rfl) ?_
            refine WL.nil ?_
            refine WX.next (?_)
            refine WC.ret ?_
            refine WX.ret1 rfl rfl ?_
            exact ⟨congrArg Value.bool (decide_eq_true (p := mayI _) ⟨by dsimp only; omega, by dsimp only; omega, fun h => by simp only [List.cons.injEq] at h; omega⟩).symm, M1.keep⟩
          · rw [decide_eq_false h5]
            refine WL.yes rfl rfl rfl rfl ?_
            refine WL.ex rfl rfl rfl (Ex.pickF rfl rfl) ?_
            refine WL.yes rfl rfl rfl rfl ?_
            refine WL.ex rfl rfl rfl (Ex.mv rfl) ?_
            refine WL.yes rfl rfl rfl rfl ?_
            refine WL.ex rfl rfl rfl (Ex.fa fl72_3 rfl) ?_
            refine WL.yes rfl rfl rfl rfl ?_
            refine WL.ex rfl rfl rfl (Ex.iaA Try.underlying35 sz33 rfl rfl ⟨by omega, by omega⟩) ?_
            refine WL.yes rfl rfl rfl rfl ?_
            refine WL.ex rfl rfl rfl (Ex.load ty33 rfl (M1.cell (i := 0) rfl rfl)) ?_
            refine WL.yes rfl rfl rfl rfl ?_
            refine WL.ex rfl rfl rfl (Ex.gtr rfl rfl) ?_
            by_cases h6 : (0 : Int) < s
            · rw [decide_eq_true h6]
              refine WL.yes rfl rfl rfl rfl ?_
              refine WL.ex rfl rfl rfl (Ex.pickF rfl rfl) ?_
              refine WL.ex rfl rfl rfl (Ex.pickT rfl rfl) ?_
              refine WL.ex rfl rfl rfl (Ex.asg rfl) ?_
              refine WL.nil ?_
              refine WX.next (?_)
              refine WC.ret ?_
              refine WX.ret1 rfl rfl ?_
              exact ⟨congrArg Value.bool (decide_eq_true (p := mayI _) ⟨by dsimp only; omega, by dsimp only; omega, fun h => by simp only [List.cons.injEq] at h; omega⟩).symm, M1.keep⟩
            · rw [decide_eq_false h6]
              refine WL.yes rfl rfl rfl rfl ?_
              refine WL.ex rfl rfl rfl (Ex.pickF rfl rfl) ?_
              refine WL.ex rfl rfl rfl (Ex.pickT rfl rfl) ?_
              refine WL.ex rfl rfl rfl (Ex.asg rfl) ?_
              refine WL.nil ?_
              refine WX.next (?_)
              refine WC.ret ?_
              refine WX.ret1 rfl rfl ?_
              exact ⟨congrArg Value.bool (decide_eq_false (p := mayI _) (fun h => by obtain ⟨e1, e2, e3⟩ := h; dsimp only at e1 e2 e3; exact e3 (by rw [show p = 0 by omega, show q = 0 by omega, show r = 0 by omega, show s = 0 by omega]))).symm, M1.keep⟩
    · rw [decide_eq_false h2]
      refine WL.ex rfl rfl rfl (Ex.pickT rfl rfl) ?_
      refine WL.ex rfl rfl rfl (Ex.mv rfl) ?_
      refine WL.no rfl rfl rfl rfl rfl rfl ?_
      refine WL.no rfl rfl rfl rfl rfl rfl ?_
      refine WL.no rfl rfl rfl rfl rfl rfl ?_
      refine WL.no rfl rfl rfl rfl rfl rfl ?_
      refine WL.no rfl rfl rfl rfl rfl rfl ?_
      refine WL.no rfl rfl rfl rfl rfl rfl ?_
      refine WL.no rfl rfl rfl rfl rfl rfl ?_
      refine WL.no rfl rfl rfl rfl rfl rfl ?_
      refine WL.no rfl rfl rfl rfl rfl rfl ?_
      refine WL.no rfl rfl rfl rfl rfl rfl ?_
      refine WL.no rfl rfl rfl rfl rfl rfl ?_
      refine WL.no rfl rfl rfl rfl rfl rfl ?_
      refine WL.no rfl rfl rfl rfl rfl rfl ?_
      refine WL.no rfl rfl rfl rfl rfl rfl ?_
      refine WL.no rfl rfl rfl rfl rfl rfl ?_
      refine WL.no rfl rfl rfl rfl rfl rfl ?_
      refine WL.no rfl rfl rfl rfl rfl rfl ?_
      refine WL.no rfl rfl rfl rfl rfl rfl ?_
      refine WL.no rfl rfl rfl rfl rfl rfl ?_
      refine WL.no rfl rfl rfl rfl rfl rfl ?_
      refine WL.no rfl rfl rfl rfl rfl rfl ?_
      refine WL.no rfl rfl rfl rfl rfl rfl ?_
      refine WL.ex rfl rfl rfl (Ex.pickF rfl rfl) ?_
      refine WL.ex rfl rfl rfl (Ex.asg rfl) ?_
      refine WL.nil ?_
      refine WX.next (?_)
      refine WC.ret ?_
      refine WX.ret1 rfl rfl ?_
      exact ⟨congrArg Value.bool (decide_eq_false (p := mayI _) (fun h => by obtain ⟨e1, e2, e3⟩ := h; dsimp only at e1 e2 e3; omega)).symm, M1.keep⟩
  · rw [decide_eq_false h1]
    refine WL.ex rfl rfl rfl (Ex.mv rfl) ?_
    refine WL.no rfl rfl rfl rfl rfl rfl ?_
    refine WL.no rfl rfl rfl rfl rfl rfl ?_
    refine WL.no rfl rfl rfl rfl rfl rfl ?_
    refine WL.ex rfl rfl rfl (Ex.pickF rfl rfl) ?_
    refine WL.ex rfl rfl rfl (Ex.mv rfl) ?_
    refine WL.no rfl rfl rfl rfl rfl rfl ?_
    refine WL.no rfl rfl rfl rfl rfl rfl ?_
    refine WL.no rfl rfl rfl rfl rfl rfl ?_
    refine WL.no rfl rfl rfl rfl rfl rfl ?_
    refine WL.no rfl rfl rfl rfl rfl rfl ?_
    refine WL.no rfl rfl rfl rfl rfl rfl ?_
    refine WL.no rfl rfl rfl rfl rfl rfl ?_
    refine WL.no rfl rfl rfl rfl rfl rfl ?_
    refine WL.no rfl rfl rfl rfl rfl rfl ?_
    refine WL.no rfl rfl rfl rfl rfl rfl ?_
    refine WL.no rfl rfl rfl rfl rfl rfl ?_
    refine WL.no rfl rfl rfl rfl rfl rfl ?_
    refine WL.no rfl rfl rfl rfl rfl rfl ?_
    refine WL.no rfl rfl rfl rfl rfl rfl ?_
    refine WL.no rfl rfl rfl rfl rfl rfl ?_
    refine WL.no rfl rfl rfl rfl rfl rfl ?_
    refine WL.no rfl rfl rfl rfl rfl rfl ?_
    refine WL.no rfl rfl rfl rfl rfl rfl ?_
    refine WL.no rfl rfl rfl rfl rfl rfl ?_
    refine WL.no rfl rfl rfl rfl rfl rfl ?_
    refine WL.no rfl rfl rfl rfl rfl rfl ?_
    refine WL.no rfl rfl rfl rfl rfl rfl ?_
    refine WL.ex rfl rfl rfl (Ex.pickF rfl rfl) ?_
    refine WL.ex rfl rfl rfl (Ex.asg rfl) ?_
    refine WL.nil ?_
    refine WX.next (?_)
    refine WC.ret ?_
    refine WX.ret1 rfl rfl ?_
    exact ⟨congrArg Value.bool (decide_eq_false (p := mayI _) (fun h => by obtain ⟨e1, e2, e3⟩ := h; dsimp only at e1 e2 e3; omega)).symm, M1.keep⟩

/- sponsion/intent.Check -/
theorem iCheck_ok (w : World) (t : Itt) (ht : IttOk t) :
    Gives Try.prog 66 #[.agg (ittC t).toArray] w fun u w1 => u = .int .i64 (if mayI t then 0 else 6) ∧ Keep nof w w1 := by
  obtain ⟨ix, tk, ow, am⟩ := t
  have hta := ht.am
  have htt := ht.tk
  have hto := ht.ow
  dsimp only at hta htt hto
  obtain ⟨p, q, r, s, rfl⟩ := len4 hta.1
  have M0 := Mem.start w nof
  refine Gives.enter (n := 17) Try.func66 rfl Try.ntmps66 rfl (env := [(0, .agg (ittC ⟨ix, tk, ow, [p, q, r, s]⟩).toArray)]) rfl ?_
  refine WC.seq ?_
  refine WC.region ?_
  refine WL.ac rfl rfl rfl (Ac.box M0 (l := ittC ⟨ix, tk, ow, [p, q, r, s]⟩) rfl rfl) ?_; rintro v1 w1 ⟨gi, rfl, hg1, K1, M1⟩
  refine WL.ex rfl rfl rfl (Ex.asg rfl) ?_
  refine WL.nil ?_
  refine WX.next (?_)
  refine WC.seq ?_
  refine WC.seq ?_
  refine WC.region ?_
  refine WL.ex rfl rfl rfl (Ex.fa fl72_1 rfl) ?_
  refine WL.ex rfl rfl rfl (Ex.load ty5 rfl (M1.cell (i := 0) rfl rfl)) ?_
  refine WL.ex rfl rfl rfl (Ex.geq rfl rfl) ?_
  by_cases h1 : (4 : Int) ≤ tk
  · rw [decide_eq_true h1]
    refine WL.ex rfl rfl rfl (Ex.mv rfl) ?_
    refine WL.no rfl rfl rfl rfl rfl rfl ?_
    refine WL.no rfl rfl rfl rfl rfl rfl ?_
    refine WL.no rfl rfl rfl rfl rfl rfl ?_
    refine WL.ex rfl rfl rfl (Ex.pickT rfl rfl) ?_
    refine WL.ex rfl rfl rfl (Ex.mv rfl) ?_
    refine WL.no rfl rfl rfl rfl rfl rfl ?_
    refine WL.no rfl rfl rfl rfl rfl rfl ?_
    refine WL.no rfl rfl rfl rfl rfl rfl ?_
    refine WL.no rfl rfl rfl rfl rfl rfl ?_
    refine WL.ex rfl rfl rfl (Ex.pickT rfl rfl) ?_
    refine WL.nil ?_
    refine WX.next (?_)
    refine WC.yes rfl ?_
    refine WC.seq ?_
    refine WC.region ?_
    refine WL.ex rfl rfl rfl (Ex.asg rfl) ?_
    refine WL.nil ?_
    refine WX.next (?_)
    refine WC.ret ?_
    refine WX.ret_then (?_)
    refine WX.ret1 rfl rfl ?_
    exact ⟨by rw [if_neg (fun h : mayI _ => by obtain ⟨e1, e2, e3⟩ := h; dsimp only at e1 e2 e3; first | omega | exact e3 h3)], M1.keep⟩
  · rw [decide_eq_false h1]
    refine WL.ex rfl rfl rfl (Ex.mv rfl) ?_
    refine WL.yes rfl rfl rfl rfl ?_
    refine WL.ex rfl rfl rfl (Ex.fa fl72_2 rfl) ?_
    refine WL.yes rfl rfl rfl rfl ?_
    refine WL.ex rfl rfl rfl (Ex.load ty5 rfl (M1.cell (i := 0) rfl rfl)) ?_
    refine WL.yes rfl rfl rfl rfl ?_
    refine WL.ex rfl rfl rfl (Ex.geq rfl rfl) ?_
    by_cases h2 : (16 : Int) ≤ ow
    · rw [decide_eq_true h2]
      refine WL.ex rfl rfl rfl (Ex.pickF rfl rfl) ?_
      refine WL.ex rfl rfl rfl (Ex.mv rfl) ?_
      refine WL.no rfl rfl rfl rfl rfl rfl ?_
      refine WL.no rfl rfl rfl rfl rfl rfl ?_
      refine WL.no rfl rfl rfl rfl rfl rfl ?_
      refine WL.no rfl rfl rfl rfl rfl rfl ?_
      refine WL.ex rfl rfl rfl (Ex.pickT rfl rfl) ?_
      refine WL.nil ?_
      refine WX.next (?_)
      refine WC.yes rfl ?_
      refine WC.seq ?_
      refine WC.region ?_
      refine WL.ex rfl rfl rfl (Ex.asg rfl) ?_
      refine WL.nil ?_
      refine WX.next (?_)
      refine WC.ret ?_
      refine WX.ret_then (?_)
      refine WX.ret1 rfl rfl ?_
      exact ⟨by rw [if_neg (fun h : mayI _ => by obtain ⟨e1, e2, e3⟩ := h; dsimp only at e1 e2 e3; first | omega | exact e3 h3)], M1.keep⟩
    · rw [decide_eq_false h2]
      refine WL.ex rfl rfl rfl (Ex.pickF rfl rfl) ?_
      refine WL.ex rfl rfl rfl (Ex.mv rfl) ?_
      refine WL.yes rfl rfl rfl rfl ?_
      refine WL.ex rfl rfl rfl (Ex.fa fl72_3 rfl) ?_
      refine WL.yes rfl rfl rfl rfl ?_
      refine WL.ex rfl rfl rfl (Ex.loadA ty35 rfl (l := intV [p, q, r, s]) rfl (M1.rdt (m := 4) (i := 0) rfl rfl)) ?_
      refine WL.yes rfl rfl rfl rfl ?_
      refine WL.ex rfl rfl rfl (Ex.bld bd35 (parts := []) (l := intV [0, 0, 0, 0]) rfl rfl rfl rfl) ?_
      refine WL.yes rfl rfl rfl rfl ?_
      refine WL.ex rfl rfl rfl (Ex.eqA rfl rfl (eqInt w hta int4_0)) ?_
      by_cases h3 : [p, q, r, s] = [0, 0, 0, 0]
      · rw [decide_eq_true h3]
        refine WL.ex rfl rfl rfl (Ex.pickF rfl rfl) ?_
        refine WL.nil ?_
        refine WX.next (?_)
        refine WC.yes rfl ?_
        refine WC.seq ?_
        refine WC.region ?_
        refine WL.ex rfl rfl rfl (Ex.asg rfl) ?_
        refine WL.nil ?_
        refine WX.next (?_)
        refine WC.ret ?_
        refine WX.ret_then (?_)
        refine WX.ret1 rfl rfl ?_
        exact ⟨by rw [if_neg (fun h : mayI _ => by obtain ⟨e1, e2, e3⟩ := h; dsimp only at e1 e2 e3; first | omega | exact e3 h3)], M1.keep⟩
      · rw [decide_eq_false h3]
        refine WL.ex rfl rfl rfl (Ex.pickF rfl rfl) ?_
        refine WL.nil ?_
        refine WX.next (?_)
        refine WC.no rfl ?_
        refine WC.skip ?_
        refine WX.next (?_)
        refine WC.seq ?_
        refine WC.region ?_
        refine WL.ex rfl rfl rfl (Ex.asg rfl) ?_
        refine WL.nil ?_
        refine WX.next (?_)
        refine WC.ret ?_
        refine WX.ret1 rfl rfl ?_
        exact ⟨by rw [if_pos (show mayI _ from ⟨by dsimp only; omega, by dsimp only; omega, h3⟩)], M1.keep⟩

/- sponsion/intent.Get -/
theorem iGet_walk (w : World) (g : Nat) (D : List Nat) (l : List UInt8) (e : Int) (h : (rdR g D (l, e)).sat w) (h0 : e ≠ 0 → l = []) :
    Gives Try.prog 44 #[.pointer (some ⟨g, 0, none⟩)] w fun u w1 => u = .agg (ittC (iGet (l, e)).1).toArray ∧ Turn w w1 (rdR g D (l, e)) (rdR g D (iGet (l, e)).2) := by
  have M0 := Mem.begin h
  refine Gives.enter (n := 25) Try.func44 rfl Try.ntmps44 rfl (env := [(0, .pointer (some ⟨g, 0, none⟩))]) rfl ?_
  refine WC.seq ?_
  refine WC.region ?_
  refine WL.ac rfl rfl rfl (Ac.alloc M0 (l := ittC itt0) (by kernel_rfl)) ?_; rintro v1 w1 ⟨go, rfl, hg1, K1, M1⟩
  by_cases hc : e = 0 ∧ 38 ≤ l.length
  · obtain ⟨rfl, hc2⟩ := hc
    obtain ⟨A, B, C, Dd, L, hA, hB, hC, hD, rfl⟩ := split38 hc2
    have hx : IttOk ⟨beVal A, beVal B, beVal C, ofB Dd⟩ := by have := ittOf_ok (b := A ++ (B ++ (C ++ Dd))) (by simp [hA, hB, hC, hD]); rwa [ittOf_app hA hB hC] at this
    refine WL.nil ?_
    refine WX.next (?_)
    refine WC.seq ?_
    refine WC.region ?_
    refine WL.ex rfl rfl rfl (Ex.mv rfl) ?_
    refine WL.ac rfl rfl rfl (Ac.call rfl Try.func31 nm31 rfl (rU32_ok w1 _ _ _ _ (M1.get (i := 1) rfl))) ?_; rintro v3 w3 ⟨rfl, T3⟩
    rw [rTake_app2 hA] at T3
    rw [rTake_app1 hA]
    have M3 := M1.turned (i := 1) rfl T3
    try dsimp only [List.set] at M3
    refine WL.ex rfl rfl rfl (Ex.mv rfl) ?_
    refine WL.ac rfl rfl rfl (Ac.call rfl Try.func29 nm29 rfl (rU8_ok w3 _ _ _ _ (M3.get (i := 1) rfl))) ?_; rintro v5 w5 ⟨rfl, T5⟩
    rw [rTake_app2 hB] at T5
    rw [rTake_app1 hB]
    have M5 := M3.turned (i := 1) rfl T5
    try dsimp only [List.set] at M5
    refine WL.ex rfl rfl rfl (Ex.mv rfl) ?_
    refine WL.ac rfl rfl rfl (Ac.call rfl Try.func29 nm29 rfl (rU8_ok w5 _ _ _ _ (M5.get (i := 1) rfl))) ?_; rintro v7 w7 ⟨rfl, T7⟩
    rw [rTake_app2 hC] at T7
    rw [rTake_app1 hC]
    have M7 := M5.turned (i := 1) rfl T7
    try dsimp only [List.set] at M7
    refine WL.ex rfl rfl rfl (Ex.mv rfl) ?_
    refine WL.ac rfl rfl rfl (Ac.call rfl Try.func33 nm33 rfl (rInt_ok w7 _ _ _ _ (M7.get (i := 1) rfl))) ?_; rintro v9 w9 ⟨rfl, T9⟩
    rw [rTake_app2 hD] at T9
    rw [rTake_app1 hD, show rInt Dd = ofB Dd by rw [rInt, if_pos hD]]
    have M9 := M7.turned (i := 1) rfl T9
    try dsimp only [List.set] at M9
    refine WL.ex rfl rfl rfl (Ex.bldS bd72 (parts := [(0, .tmp 5), (1, .tmp 7), (2, .tmp 9), (3, .tmp 11)]) _ rfl rfl rfl (bldItt (ofB_len Dd))) ?_
    refine WL.ac rfl rfl rfl (Ac.alloc M9 (l := ittC itt0) (by kernel_rfl)) ?_; rintro v11 w11 ⟨gx, rfl, hg11, K11, M11⟩
    refine WL.ac0 rfl rfl (Ac.stA M11 ty72 rfl rfl (vs := ittC ⟨beVal A, beVal B, beVal C, ofB Dd⟩) rfl (itt_len hx) itt_one (i := 0) rfl (by rw [itt_len hx, itt_len itt0_ok]; decide)) ?_; rintro v12 w12 ⟨K12, M12⟩
    try dsimp only [List.set] at M12
    rw [splice_all _ _ (by rw [itt_len hx, itt_len itt0_ok])] at M12
    refine WL.nil ?_
    refine WX.next (?_)
    refine WC.seq ?_
    refine WC.seq ?_
    refine WC.region ?_
    refine WL.ex rfl rfl rfl (Ex.mv rfl) ?_
    refine WL.ac rfl rfl rfl (Ac.call rfl Try.func39 nm39 rfl (rErr_ok w12 _ _ _ _ (M12.get (i := 2) rfl))) ?_; rintro v14 w14 ⟨rfl, rfl⟩
    refine WL.ex rfl rfl rfl (Ex.eqI rfl rfl) ?_
    refine WL.nil ?_
    refine WX.next (?_)
    
    refine WC.yes (congrArg (fun b => some (Value.bool b)) (decide_eq_true rfl)) ?_
    refine WC.region ?_
    refine WL.ex rfl rfl rfl (Ex.mv rfl) ?_
    refine WL.ex rfl rfl rfl (Ex.loadA ty72 rfl (l := ittC ⟨beVal A, beVal B, beVal C, ofB Dd⟩) (itt_len hx) (M12.rdw (i := 0) rfl)) ?_
    refine WL.ac rfl rfl rfl (Ac.call rfl Try.func66 nm66 rfl (iCheck_ok w14 _ ‹_›)) ?_; rintro v18 w18 ⟨rfl, K18⟩
    have M18 := M12.step K18
    by_cases hm : mayI ⟨beVal A, beVal B, beVal C, ofB Dd⟩
    · rw [if_pos hm]
      refine WL.ac rfl rfl rfl (Ac.call rfl Try.func37 nm37 rfl (rFail_ok w18 _ _ _ _ _ (M18.get (i := 2) rfl))) ?_; rintro v19 w19 T19
      rw [show rFail (L, 0) 0 = (L, 0) by simp [rFail]] at T19
      have M19 := M18.turned (i := 2) rfl T19
      try dsimp only [List.set] at M19
      refine WL.nil ?_
      refine WX.next (?_)
      refine WC.seq ?_
      refine WC.seq ?_
      refine WC.region ?_
      refine WL.ex rfl rfl rfl (Ex.mv rfl) ?_
      refine WL.ac rfl rfl rfl (Ac.call rfl Try.func39 nm39 rfl (rErr_ok w19 _ _ _ _ (M19.get (i := 2) rfl))) ?_; rintro v21 w21 ⟨rfl, rfl⟩
      refine WL.ex rfl rfl rfl (Ex.neI rfl rfl) ?_
      refine WL.nil ?_
      refine WX.next (?_)
      
      refine WC.no (congrArg (fun b => some (Value.bool !b)) (decide_eq_true rfl)) ?_
      refine WC.skip ?_
      refine WX.next (?_)
      refine WC.seq ?_
      refine WC.region ?_
      refine WL.ex rfl rfl rfl (Ex.loadA ty72 rfl (l := ittC ⟨beVal A, beVal B, beVal C, ofB Dd⟩) (itt_len hx) (M19.rdw (i := 0) rfl)) ?_
      refine WL.ac0 rfl rfl (Ac.stA M19 ty72 rfl rfl (vs := ittC ⟨beVal A, beVal B, beVal C, ofB Dd⟩) rfl (itt_len hx) itt_one (i := 1) rfl (by rw [itt_len hx, itt_len itt0_ok]; decide)) ?_; rintro v24 w24 ⟨K24, M24⟩
      try dsimp only [List.set] at M24
      rw [splice_all _ _ (by rw [itt_len hx, itt_len itt0_ok])] at M24
      refine WL.nil ?_
      refine WX.next (?_)
      refine WC.ret ?_
      refine WX.retc rfl rfl (run_loadVarA ty72 (by first | rfl | exact itt_len hx) (M24.rdw (i := 1) rfl)) ?_
      rw [iGet_app hA hB hC hD, if_pos hm]
      exact ⟨rfl, (Mem.sub M24 (.cons _ (.cons _ (.refl _)))).toTurn⟩
    · rw [if_neg hm]
      refine WL.ac rfl rfl rfl (Ac.call rfl Try.func37 nm37 rfl (rFail_ok w18 _ _ _ _ _ (M18.get (i := 2) rfl))) ?_; rintro v25 w25 T25
      rw [show rFail (L, 0) 6 = ([], 6) by simp [rFail]] at T25
      have M25 := M18.turned (i := 2) rfl T25
      try dsimp only [List.set] at M25
      refine WL.nil ?_
      refine WX.next (?_)
      refine WC.seq ?_
      refine WC.seq ?_
      refine WC.region ?_
      refine WL.ex rfl rfl rfl (Ex.mv rfl) ?_
      refine WL.ac rfl rfl rfl (Ac.call rfl Try.func39 nm39 rfl (rErr_ok w25 _ _ _ _ (M25.get (i := 2) rfl))) ?_; rintro v27 w27 ⟨rfl, rfl⟩
      refine WL.ex rfl rfl rfl (Ex.neI rfl rfl) ?_
      refine WL.nil ?_
      refine WX.next (?_)
      
      refine WC.yes (congrArg (fun b => some (Value.bool !b)) (decide_eq_false (by decide))) ?_
      refine WC.seq ?_
      refine WC.region ?_
      refine WL.ex rfl rfl rfl (Ex.bld bd72 (parts := []) (l := ittC itt0) rfl rfl rfl rfl) ?_
      refine WL.ac0 rfl rfl (Ac.stA M25 ty72 rfl rfl (vs := ittC itt0) rfl rfl itt_one (i := 1) rfl (Nat.le_refl _)) ?_; rintro v30 w30 ⟨K30, M30⟩
      try dsimp only [List.set] at M30
      rw [splice_all _ _ rfl] at M30
      refine WL.nil ?_
      refine WX.next (?_)
      refine WC.ret ?_
      refine WX.ret_then (?_)
      refine WX.retc rfl rfl (run_loadVarA ty72 (by first | rfl | exact itt_len hx) (M30.rdw (i := 1) rfl)) ?_
      rw [iGet_app hA hB hC hD, if_neg hm]
      exact ⟨rfl, (Mem.sub M30 (.cons _ (.cons _ (.refl _)))).toTurn⟩
  ·
    refine WL.nil ?_
    refine WX.next (?_)
    refine WC.seq ?_
    refine WC.region ?_
    refine WL.ex rfl rfl rfl (Ex.mv rfl) ?_
    refine WL.ac rfl rfl rfl (Ac.call rfl Try.func31 nm31 rfl (rU32_ok w1 _ _ l e (M1.get (i := 1) rfl))) ?_; rintro v32 w32 ⟨rfl, T32⟩
    obtain ⟨⟨o1, l1, e1⟩, hp1⟩ : ∃ p, p = rTake (l, e) 4 := ⟨_, rfl⟩
    rw [← hp1] at T32 ⊢
    have M32 := M1.turned (i := 1) rfl T32
    try dsimp only [List.set] at M32
    refine WL.ex rfl rfl rfl (Ex.mv rfl) ?_
    refine WL.ac rfl rfl rfl (Ac.call rfl Try.func29 nm29 rfl (rU8_ok w32 _ _ l1 e1 (M32.get (i := 1) rfl))) ?_; rintro v34 w34 ⟨rfl, T34⟩
    obtain ⟨⟨o2, l2, e2⟩, hp2⟩ : ∃ p, p = rTake (l1, e1) 1 := ⟨_, rfl⟩
    rw [← hp2] at T34 ⊢
    have M34 := M32.turned (i := 1) rfl T34
    try dsimp only [List.set] at M34
    refine WL.ex rfl rfl rfl (Ex.mv rfl) ?_
    refine WL.ac rfl rfl rfl (Ac.call rfl Try.func29 nm29 rfl (rU8_ok w34 _ _ l2 e2 (M34.get (i := 1) rfl))) ?_; rintro v36 w36 ⟨rfl, T36⟩
    obtain ⟨⟨o3, l3, e3⟩, hp3⟩ : ∃ p, p = rTake (l2, e2) 1 := ⟨_, rfl⟩
    rw [← hp3] at T36 ⊢
    have M36 := M34.turned (i := 1) rfl T36
    try dsimp only [List.set] at M36
    refine WL.ex rfl rfl rfl (Ex.mv rfl) ?_
    refine WL.ac rfl rfl rfl (Ac.call rfl Try.func33 nm33 rfl (rInt_ok w36 _ _ l3 e3 (M36.get (i := 1) rfl))) ?_; rintro v38 w38 ⟨rfl, T38⟩
    obtain ⟨⟨o4, l4, e4⟩, hp4⟩ : ∃ p, p = rTake (l3, e3) 32 := ⟨_, rfl⟩
    rw [← hp4] at T38 ⊢
    have M38 := M36.turned (i := 1) rfl T38
    try dsimp only [List.set] at M38
    obtain ⟨a0, a1, a2, a3, ha⟩ := len4 (rInt_len o4)
    dsimp only
    rw [ha]
    have hk := takes_short (s := (l, e)) h0 hc
    rw [← hp1] at hk
    dsimp only at hk
    rw [← hp2] at hk
    dsimp only at hk
    rw [← hp3] at hk
    dsimp only at hk
    rw [← hp4] at hk
    dsimp only at hk
    obtain ⟨hk1, hk2⟩ := hk
    rw [← hk1] at hk2
    dsimp only at hk2
    refine WL.ex rfl rfl rfl (Ex.bldS bd72 (parts := [(0, .tmp 5), (1, .tmp 7), (2, .tmp 9), (3, .tmp 11)]) _ rfl rfl rfl (bldItt (am := [a0, a1, a2, a3]) rfl)) ?_
    refine WL.ac rfl rfl rfl (Ac.alloc M38 (l := ittC itt0) (by kernel_rfl)) ?_; rintro v40 w40 ⟨gx, rfl, hg40, K40, M40⟩
    refine WL.ac0 rfl rfl (Ac.stA M40 ty72 rfl rfl (vs := ittC ⟨beVal o1, beVal o2, beVal o3, [a0, a1, a2, a3]⟩) rfl rfl itt_one (i := 0) rfl (by rw [itt_len itt0_ok]; exact Nat.le_refl 7)) ?_; rintro v41 w41 ⟨K41, M41⟩
    try dsimp only [List.set] at M41
    rw [splice_all _ _ (by rw [itt_len itt0_ok]; rfl)] at M41
    refine WL.nil ?_
    refine WX.next (?_)
    refine WC.seq ?_
    refine WC.seq ?_
    refine WC.region ?_
    refine WL.ex rfl rfl rfl (Ex.mv rfl) ?_
    refine WL.ac rfl rfl rfl (Ac.call rfl Try.func39 nm39 rfl (rErr_ok w41 _ _ _ _ (M41.get (i := 2) rfl))) ?_; rintro v43 w43 ⟨rfl, rfl⟩
    refine WL.ex rfl rfl rfl (Ex.eqI rfl rfl) ?_
    refine WL.nil ?_
    refine WX.next (?_)
    
    refine WC.no (congrArg (fun b => some (Value.bool b)) (decide_eq_false hk2)) ?_
    refine WC.skip ?_
    refine WX.next (?_)
    refine WC.seq ?_
    refine WC.seq ?_
    refine WC.region ?_
    refine WL.ex rfl rfl rfl (Ex.mv rfl) ?_
    refine WL.ac rfl rfl rfl (Ac.call rfl Try.func39 nm39 rfl (rErr_ok w43 _ _ _ _ (M41.get (i := 2) rfl))) ?_; rintro v46 w46 ⟨rfl, rfl⟩
    refine WL.ex rfl rfl rfl (Ex.neI rfl rfl) ?_
    refine WL.nil ?_
    refine WX.next (?_)
    
    refine WC.yes (congrArg (fun b => some (Value.bool !b)) (decide_eq_false hk2)) ?_
    refine WC.seq ?_
    refine WC.region ?_
    refine WL.ex rfl rfl rfl (Ex.bld bd72 (parts := []) (l := ittC itt0) rfl rfl rfl rfl) ?_
    refine WL.ac0 rfl rfl (Ac.stA M41 ty72 rfl rfl (vs := ittC itt0) rfl rfl itt_one (i := 1) rfl (Nat.le_refl _)) ?_; rintro v49 w49 ⟨K49, M49⟩
    try dsimp only [List.set] at M49
    rw [splice_all _ _ rfl] at M49
    refine WL.nil ?_
    refine WX.next (?_)
    refine WC.ret ?_
    refine WX.ret_then (?_)
    refine WX.retc rfl rfl (run_loadVarA ty72 (by first | rfl | exact itt_len hx) (M49.rdw (i := 1) rfl)) ?_
    rw [iGet_short (s := (l, e)) hc, ← hk1]
    exact ⟨rfl, (Mem.sub M49 (.cons _ (.cons _ (.refl _)))).toTurn⟩

end Go.Proofs.Ytpngjgcbdaogmaa
