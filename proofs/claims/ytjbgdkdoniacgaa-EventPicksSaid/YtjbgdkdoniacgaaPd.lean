/- Walks, written by gen.py off the translation's own print: each says what the Go function comes to. -/
import Derived.Test.YtjbgdkdoniacgaaPc
set_option linter.unusedVariables false
set_option linter.unusedSimpArgs false
namespace Go.Proofs.Ytjbgdkdoniacgaa
open Go.Sx Go.RowKit
attribute [local irreducible] Ac Ex WL WC WX WP Gives

theorem evs_snoc {es : List Ev} {i : Nat} {p : Ev} (h : es[i]? = some p) : (es.take (i + 1)).flatMap evB = (es.take i).flatMap evB ++ evB p := by rw [take_snoc h]; simp
theorem evsB_len {es : List Ev} (h : ∀ t ∈ es, EvOk t) : (es.flatMap evB).length = 113 * es.length := by
  induction es with
  | nil => rfl
  | cons a r ih =>
    have h1 := evB_len (h a (by simp))
    have h2 := ih fun t ht => h t (by simp [ht])
    simp only [List.flatMap_cons, List.length_append, h1, h2, List.length_cons]
    omega

/- sponsion/event.Bytes -/
theorem eBytes_ok (w : World) (A : Option Addr) (c : Nat) (es : List Ev) (hr : RdE w A es) (hb : es.length ≤ 1000000) :
    Gives Try.prog 10 #[.slice A es.length c] w fun u w1 =>
      if ∀ t ∈ es, mayE t then ∃ v, u = .tuple #[v, .int .i64 0] ∧ New w w1 (row v 5 1 (es.flatMap evB).length (bytesV (es.flatMap evB))) else u = .tuple #[.slice none 0 0, .int .i64 6] ∧ Keep nof w w1 := by
  have M0 := (Mem.start w nof).free (r := row (.slice none 0 0) 5 1 ([] : List UInt8).length (bytesV [])) (row_nil _ _ _) rfl
  refine Gives.enter (n := 55) Try.func10 rfl Try.ntmps10 rfl (env := [(0, .slice A es.length c)]) rfl ?_
  refine WC.seq ?_
  refine WC.region ?_
  refine WL.ex rfl rfl rfl (Ex.asg rfl) ?_
  refine WL.ex rfl rfl rfl (Ex.asg rfl) ?_
  refine WL.nil ?_
  refine WX.next (?_)
  refine WC.seq ?_
  refine WC.region ?_
  refine WL.ex rfl rfl rfl (Ex.bld bd58 (parts := []) rfl rfl rfl rfl) ?_
  refine WL.ac rfl rfl rfl (Ac.box M0 rfl rfl) ?_; rintro v4 w4 ⟨g, rfl, hg4, K4, M4⟩
  have M4 := M4.close1 (fun v => [v])
  refine WL.ex rfl rfl rfl (Ex.asg rfl) ?_
  refine WL.nil ?_
  refine WX.next (?_)
  refine WC.seq ?_
  refine WC.seq ?_
  refine WC.region ?_
  refine WL.ex rfl rfl rfl (Ex.mv rfl) ?_
  refine WL.ex rfl rfl rfl (Ex.len Try.underlying22 rfl) ?_
  refine WL.ex rfl rfl rfl (Ex.mv rfl) ?_
  refine WL.nil ?_
  refine WX.next (?_)
  refine WC.block ?_
  refine WC.loop (σ := Nat) (fun i => [(10, .slice A es.length c), (11, .int .i64 (es.length : Int)), (12, .int .i64 (i : Int)), (4, .pointer (some ⟨g, 0, none⟩))]) (fun i wr => i ≤ es.length ∧ (∀ t ∈ es.take i, mayE t) ∧ ∃ v L, L = (es.take i).flatMap evB ∧ Mem w wr nof [wrR g v L]) (fun i => es.length - i) (0) ?_ (.cons rfl (.cons rfl (.cons rfl (.cons rfl (.nil))))) ?_
  · exact ⟨by omega, by simp, _, _, rfl, M4⟩
  rintro i w9 ⟨hi, hm, v, L, hL, M9⟩
  refine WC.seq ?_
  refine WC.region ?_
  refine WL.ex rfl rfl rfl (Ex.lss rfl rfl) ?_
  refine WL.nil ?_
  refine WX.next (?_)
  refine WC.seq ?_
  refine WC.cond_dec rfl (fun hc13 => ?_) (fun hc13 => ?_)
  · obtain ⟨p, hpi⟩ : ∃ p, es[i]? = some p := ⟨_, List.getElem?_eq_getElem (by omega)⟩
    have hpm : p ∈ es := List.mem_of_getElem? hpi
    have hpo := hr.ok p hpm
    obtain ⟨b0, o0, hA⟩ := hr.plain hpi
    subst hA
    have hbl : L.length ≤ 113 * 1000000 := by rw [hL, evsB_len (fun t ht => hr.ok t (List.mem_of_mem_take ht))]; simp; omega
    have hek := hpo.k
    have heb := hpo.b
    have hes := hpo.sd
    have het := hpo.tk
    have hef := hpo.fr
    have heo := hpo.to
    have hea := hpo.am
    have hee := hpo.fe
    have hei := hpo.id
    have het2 := hpo.bt
    refine WC.skip ?_
    refine WX.next (?_)
    refine WC.seq ?_
    refine WC.block ?_
    refine WC.seq ?_
    refine WC.region ?_
    refine WL.ex rfl rfl rfl (Ex.ia Try.underlying22 sz45 rfl rfl ⟨by omega, by omega⟩) ?_
    refine WL.ex rfl rfl rfl (Ex.loadA ty45 rfl (l := evC p) (ev_len hpo) (Rd.flat (hr.keep M9.keep).row (i := (i : Int).toNat) (fun t ht => ev_len (hr.ok t ht)) (by simpa using hpi))) ?_
    refine WL.ac rfl rfl rfl (Ac.alloc M9 (l := evC ev0) (by kernel_rfl)) ?_; rintro v13 w13 ⟨gi, rfl, hg13, K13, M13⟩
    refine WL.ac0 rfl rfl (Ac.stA M13 ty45 rfl rfl (vs := evC p) rfl (ev_len hpo) ev_one (i := 0) rfl (by rw [ev_len hpo, ev_len ev0_ok]; decide)) ?_; rintro v14 w14 ⟨K14, M14⟩
    try dsimp only [List.set] at M14
    rw [splice_all _ _ (by rw [ev_len hpo, ev_len ev0_ok])] at M14
    refine WL.nil ?_
    refine WX.next (?_)
    refine WC.seq ?_
    refine WC.seq ?_
    refine WC.region ?_
    refine WL.ex rfl rfl rfl (Ex.loadA ty45 rfl (l := evC p) (ev_len hpo) (M14.rdw (i := 0) rfl)) ?_
    refine WL.ac rfl rfl rfl (Ac.call rfl Try.func19 nm19 rfl (eCheck_ok w14 _ hpo)) ?_; rintro v16 w16 ⟨rfl, K16⟩
    have M16 := M14.step K16
    by_cases hmp : mayE p
    · rw [if_pos hmp]
      refine WL.ex rfl rfl rfl (Ex.asg rfl) ?_
      refine WL.nil ?_
      refine WX.next (?_)
      refine WC.seq ?_
      refine WC.region ?_
      refine WL.ex rfl rfl rfl (Ex.mv rfl) ?_
      refine WL.ex rfl rfl rfl (Ex.neI rfl rfl) ?_
      refine WL.nil ?_
      refine WX.next (?_)
      
      refine WC.no rfl ?_
      refine WC.skip ?_
      refine WX.next (?_)
      have hne : gi ∉ (wrR g v L).fp := M16.apart (i := 0) (j := 1) rfl rfl (by decide) _ (by simp [blk])
      refine WC.draw (Keep (· ∈ (wrR g v L).fp) w16.drew) [] (.one 0 0 (.one 1 0 (.one 4 0 (.one 7 0 (.one 10 0 (.one 13 0 (.one 16 0 (.one 19 0 (.one 22 0 (.one 25 0 (.one 28 0 (.one 2 1 (.one 5 1 (.one 8 1 (.one 11 1 (.one 14 1 (.one 17 1 (.one 20 1 (.one 23 1 (.one 26 1 (.one 29 1 (.one 3 2 (.one 6 2 (.one 9 2 (.one 12 2 (.one 15 2 (.one 18 2 (.one 21 2 (.one 24 2 (.one 27 2 (.one 30 2 .nil))))))))))))))))))))))))))))))) mixed (by kernel_rfl) (by kernel_rfl) (by kernel_rfl) (HQ.block (HQ.then_ (HQ.then_ (HQ.block (HQ.then_ HQ.body))))) ?_
      obtain ⟨w20, hw20⟩ : ∃ v, v = w16.drew := ⟨_, rfl⟩
      have D20 : Keep nof w16 w20 := by rw [hw20]; exact Keep.drew _ _
      have M20 := M16.step D20
      rw [← hw20]; clear hw20
      refine WP.p rfl rfl rfl rfl (fun _ => Ex.mv rfl) ?_
      refine WP.p rfl rfl rfl rfl (fun _ => Ex.fa fl45_0 rfl) ?_
      refine WP.p rfl rfl rfl rfl (fun _ => Ex.fa fl45_1 rfl) ?_
      refine WP.p rfl rfl rfl rfl (fun _ => Ex.fa fl45_2 rfl) ?_
      refine WP.p rfl rfl rfl rfl (fun _ => Ex.fa fl45_3 rfl) ?_
      refine WP.p rfl rfl rfl rfl (fun _ => Ex.fa fl45_4 rfl) ?_
      refine WP.p rfl rfl rfl rfl (fun _ => Ex.fa fl45_5 rfl) ?_
      refine WP.p rfl rfl rfl rfl (fun _ => Ex.fa fl45_6 rfl) ?_
      refine WP.p rfl rfl rfl rfl (fun _ => Ex.fa fl45_7 rfl) ?_
      refine WP.p rfl rfl rfl rfl (fun _ => Ex.fa fl45_8 rfl) ?_
      refine WP.p rfl rfl rfl rfl (fun _ => Ex.fa fl45_9 rfl) ?_
      refine WP.q (Keep.refl _ _) rfl rfl rfl rfl (fun w' hS => Ex.load ty5 rfl (hS.cell (M20.cell (i := 0) rfl (rfl)) hne)) ?_
      refine WP.q (Keep.refl _ _) rfl rfl rfl rfl (fun w' hS => Ex.load ty29 rfl (hS.cell (M20.cell (i := 0) rfl (rfl)) hne)) ?_
      refine WP.q (Keep.refl _ _) rfl rfl rfl rfl (fun w' hS => Ex.loadA ty24 rfl (l := bytesV p.id) (by simpa using hei) ((M20.rdt (i := 0) rfl (ev_2 hpo)).keep hS (fun a ha => by cases ha; exact hne))) ?_
      refine WP.q (Keep.refl _ _) rfl rfl rfl rfl (fun w' hS => Ex.load ty5 rfl (hS.cell (M20.cell (i := 0) rfl (ev_34 hpo)) hne)) ?_
      refine WP.q (Keep.refl _ _) rfl rfl rfl rfl (fun w' hS => Ex.load ty5 rfl (hS.cell (M20.cell (i := 0) rfl (ev_35 hpo)) hne)) ?_
      refine WP.q (Keep.refl _ _) rfl rfl rfl rfl (fun w' hS => Ex.load ty5 rfl (hS.cell (M20.cell (i := 0) rfl (ev_36 hpo)) hne)) ?_
      refine WP.q (Keep.refl _ _) rfl rfl rfl rfl (fun w' hS => Ex.load ty5 rfl (hS.cell (M20.cell (i := 0) rfl (ev_37 hpo)) hne)) ?_
      refine WP.q (Keep.refl _ _) rfl rfl rfl rfl (fun w' hS => Ex.loadA ty31 rfl (l := intV p.am) (by simpa using hea.1) ((M20.rdt (i := 0) rfl (ev_38 hpo)).keep hS (fun a ha => by cases ha; exact hne))) ?_
      refine WP.q (Keep.refl _ _) rfl rfl rfl rfl (fun w' hS => Ex.loadA ty31 rfl (l := intV p.fe) (by simpa using hee.1) ((M20.rdt (i := 0) rfl (ev_42 hpo)).keep hS (fun a ha => by cases ha; exact hne))) ?_
      refine WP.q (Keep.refl _ _) rfl rfl rfl rfl (fun w' hS => Ex.load ty32 rfl (hS.cell (M20.cell (i := 0) rfl (ev_46 hpo)) hne)) ?_
      refine WP.a rfl rfl rfl rfl (Ac.call rfl Try.func20 nm20 rfl (wU8_ok w20 _ _ _ _ (M20.get (i := 1) rfl) (by first | omega | decide) (by first | (simp; done) | (simp; omega) | omega))) ?_; rintro v42 w42 ⟨rfl, v42, T42⟩; refine .inr ⟨fun _ => T42.keep, ?_⟩
      have M42 := M20.turned (i := 1) rfl T42
      try dsimp only [List.set] at M42
      refine WP.a rfl rfl rfl rfl (Ac.call rfl Try.func21 nm21 rfl (wU64_ok w42 _ _ _ _ (M42.get (i := 1) rfl) (by first | omega | decide) (by first | (simp; done) | (simp; omega) | omega))) ?_; rintro v43 w43 ⟨rfl, v43, T43⟩; refine .inr ⟨fun _ => (T42.trans T43).keep, ?_⟩
      have M43 := M42.turned (i := 1) rfl T43
      try dsimp only [List.set] at M43
      refine WP.a rfl rfl rfl rfl (Ac.call rfl Try.func22 nm22 rfl (wHash_ok w43 _ _ _ _ (M43.get (i := 1) rfl) ‹_› (by first | (simp; done) | (simp; omega) | omega))) ?_; rintro v44 w44 ⟨rfl, v44, T44⟩; refine .inr ⟨fun _ => ((T42.trans T43).trans T44).keep, ?_⟩
      have M44 := M43.turned (i := 1) rfl T44
      try dsimp only [List.set] at M44
      refine WP.a rfl rfl rfl rfl (Ac.call rfl Try.func20 nm20 rfl (wU8_ok w44 _ _ _ _ (M44.get (i := 1) rfl) (by first | omega | decide) (by first | (simp; done) | (simp; omega) | omega))) ?_; rintro v45 w45 ⟨rfl, v45, T45⟩; refine .inr ⟨fun _ => (((T42.trans T43).trans T44).trans T45).keep, ?_⟩
      have M45 := M44.turned (i := 1) rfl T45
      try dsimp only [List.set] at M45
      refine WP.a rfl rfl rfl rfl (Ac.call rfl Try.func20 nm20 rfl (wU8_ok w45 _ _ _ _ (M45.get (i := 1) rfl) (by first | omega | decide) (by first | (simp; done) | (simp; omega) | omega))) ?_; rintro v46 w46 ⟨rfl, v46, T46⟩; refine .inr ⟨fun _ => ((((T42.trans T43).trans T44).trans T45).trans T46).keep, ?_⟩
      have M46 := M45.turned (i := 1) rfl T46
      try dsimp only [List.set] at M46
      refine WP.a rfl rfl rfl rfl (Ac.call rfl Try.func20 nm20 rfl (wU8_ok w46 _ _ _ _ (M46.get (i := 1) rfl) (by first | omega | decide) (by first | (simp; done) | (simp; omega) | omega))) ?_; rintro v47 w47 ⟨rfl, v47, T47⟩; refine .inr ⟨fun _ => (((((T42.trans T43).trans T44).trans T45).trans T46).trans T47).keep, ?_⟩
      have M47 := M46.turned (i := 1) rfl T47
      try dsimp only [List.set] at M47
      refine WP.a rfl rfl rfl rfl (Ac.call rfl Try.func20 nm20 rfl (wU8_ok w47 _ _ _ _ (M47.get (i := 1) rfl) (by first | omega | decide) (by first | (simp; done) | (simp; omega) | omega))) ?_; rintro v48 w48 ⟨rfl, v48, T48⟩; refine .inr ⟨fun _ => ((((((T42.trans T43).trans T44).trans T45).trans T46).trans T47).trans T48).keep, ?_⟩
      have M48 := M47.turned (i := 1) rfl T48
      try dsimp only [List.set] at M48
      refine WP.a rfl rfl rfl rfl (Ac.call rfl Try.func23 nm23 rfl (wInt_ok w48 _ _ _ _ (M48.get (i := 1) rfl) ‹_› (by first | (simp; done) | (simp; omega) | omega))) ?_; rintro v49 w49 ⟨rfl, v49, T49⟩; refine .inr ⟨fun _ => (((((((T42.trans T43).trans T44).trans T45).trans T46).trans T47).trans T48).trans T49).keep, ?_⟩
      have M49 := M48.turned (i := 1) rfl T49
      try dsimp only [List.set] at M49
      refine WP.a rfl rfl rfl rfl (Ac.call rfl Try.func23 nm23 rfl (wInt_ok w49 _ _ _ _ (M49.get (i := 1) rfl) ‹_› (by first | (simp; done) | (simp; omega) | omega))) ?_; rintro v50 w50 ⟨rfl, v50, T50⟩; refine .inr ⟨fun _ => ((((((((T42.trans T43).trans T44).trans T45).trans T46).trans T47).trans T48).trans T49).trans T50).keep, ?_⟩
      have M50 := M49.turned (i := 1) rfl T50
      try dsimp only [List.set] at M50
      refine WP.a rfl rfl rfl rfl (Ac.call rfl Try.func24 nm24 rfl (wU32_ok w50 _ _ _ _ (M50.get (i := 1) rfl) (by first | omega | decide) (by first | (simp; done) | (simp; omega) | omega))) ?_; rintro v51 w51 ⟨rfl, v51, T51⟩; refine .inr ⟨fun _ => (((((((((T42.trans T43).trans T44).trans T45).trans T46).trans T47).trans T48).trans T49).trans T50).trans T51).keep, ?_⟩
      have M51 := M50.turned (i := 1) rfl T51
      try dsimp only [List.set] at M51
      refine WP.nil ?_
      refine WX.normal_block (WX.next (?_))
      refine WC.region ?_
      refine WL.ex rfl rfl rfl (Ex.add rfl rfl (i64w _ (by omega) (by omega))) ?_
      refine WL.ex rfl rfl rfl (Ex.mv rfl) ?_
      refine WL.nil ?_
      refine WX.again (i + 1) ?_ ?_ (.cons rfl (.cons rfl (.cons rfl (.cons rfl (.nil)))))
      · (try dsimp only); omega
      · refine ⟨by omega, ?_, v51, L ++ evB p, by rw [evs_snoc hpi, ← hL], ?_⟩
        · rw [take_snoc hpi]
          intro t ht
          rcases List.mem_append.1 ht with h | h
          · exact hm t h
          · obtain rfl : t = p := by simpa using h
            exact hmp
        · have Me := M51.drop1
          simpa only [evB, List.append_assoc] using Me
    · rw [if_neg hmp]
      refine WL.ex rfl rfl rfl (Ex.asg rfl) ?_
      refine WL.nil ?_
      refine WX.next (?_)
      refine WC.seq ?_
      refine WC.region ?_
      refine WL.ex rfl rfl rfl (Ex.mv rfl) ?_
      refine WL.ex rfl rfl rfl (Ex.neI rfl rfl) ?_
      refine WL.nil ?_
      refine WX.next (?_)
      
      refine WC.yes rfl ?_
      refine WC.seq ?_
      refine WC.region ?_
      refine WL.ex rfl rfl rfl (Ex.mv rfl) ?_
      refine WL.ex rfl rfl rfl (Ex.asg rfl) ?_
      refine WL.ex rfl rfl rfl (Ex.asg rfl) ?_
      refine WL.nil ?_
      refine WX.next (?_)
      refine WC.ret ?_
      refine WX.ret_then (WX.ret_block (WX.ret_then (WX.ret_then (WX.ret_block (WX.ret_then (?_))))))
      refine WX.ret2 rfl rfl rfl ?_
      rw [if_neg (fun h => hmp (h p hpm))]
      exact ⟨rfl, M16.keep⟩
  · have hbl : L.length ≤ 113 * 1000000 := by rw [hL, evsB_len (fun t ht => hr.ok t (List.mem_of_mem_take ht))]; simp; omega
    obtain rfl : i = es.length := by omega
    rw [List.take_of_length_le (Nat.le_refl _)] at hL hm
    refine WC.exit ?_
    refine WX.exit_then (WX.exit_then (WX.exit_block (WX.next (?_))))
    refine WC.seq ?_
    refine WC.region ?_
    refine WL.ex rfl rfl rfl (Ex.mv rfl) ?_
    refine WL.ac rfl rfl rfl (Ac.call rfl Try.func25 nm25 rfl (wBytes_ok w9 _ _ _ (M9.get (i := 0) rfl) (by omega))) ?_; rintro v61 w61 N61
    have M61 := M9.new N61
    refine WL.ex rfl rfl rfl (Ex.asg rfl) ?_
    refine WL.ex rfl rfl rfl (Ex.asg rfl) ?_
    refine WL.nil ?_
    refine WX.next (?_)
    refine WC.ret ?_
    refine WX.ret2 rfl rfl rfl ?_
    rw [if_pos hm, ← hL]
    exact ⟨_, rfl, M61.toNew⟩

end Go.Proofs.Ytjbgdkdoniacgaa
