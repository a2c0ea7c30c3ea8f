/- Walks, written by gen.py off the translation's own print: each says what the Go function comes to. -/
import Derived.Test.YtjbgdkdoniacgaaPb
set_option linter.unusedVariables false
set_option linter.unusedSimpArgs false
namespace Go.Proofs.Ytjbgdkdoniacgaa
open Go.Sx Go.RowKit
attribute [local irreducible] Ac Ex WL WC WX WP Gives

/- sponsion/event.Check -/
theorem eCheck_ok (w : World) (t : Ev) (ht : EvOk t) :
    Gives Try.prog 19 #[.agg (evC t).toArray] w fun u w1 => u = .int .i64 (if mayE t then 0 else 6) ∧ Keep nof w w1 := by
  have M0 := Mem.start w nof
  have hk := ht.k
  have hb := ht.b
  refine Gives.enter (n := 35) Try.func19 rfl Try.ntmps19 rfl (env := [(0, .agg (evC t).toArray)]) rfl ?_
  refine WC.seq ?_
  refine WC.region ?_
  refine WL.ac rfl rfl rfl (Ac.box M0 (l := evC t) rfl rfl) ?_; rintro v1 w1 ⟨gi, rfl, hg1, K1, M1⟩
  refine WL.ex rfl rfl rfl (Ex.asg rfl) ?_
  refine WL.nil ?_
  refine WX.next (?_)
  refine WC.cut (σ := Bool) (fun s => [(1, .pointer (some ⟨gi, 0, none⟩)), (3, .bool s)]) (fun s wr => (s = true ↔ t.fr ≤ 15 ∧ t.to ≤ 15) ∧ Mem w wr nof [blk gi (evC t) 45]) ?_ ?_
  ·
    refine WC.region ?_
    refine WL.ex rfl rfl rfl (Ex.fa fl45_5 rfl) ?_
    refine WL.ex rfl rfl rfl (Ex.load ty5 rfl (M1.cell (i := 0) rfl (ev_36 ht))) ?_
    refine WL.ex rfl rfl rfl (Ex.lss rfl rfl) ?_
    by_cases h5 : (t.fr : Int) < 16
    · rw [decide_eq_true h5]
      refine WL.ex rfl rfl rfl (Ex.mv rfl) ?_
      refine WL.yes rfl rfl rfl rfl ?_
      refine WL.ex rfl rfl rfl (Ex.fa fl45_6 rfl) ?_
      refine WL.yes rfl rfl rfl rfl ?_
      refine WL.ex rfl rfl rfl (Ex.load ty5 rfl (M1.cell (i := 0) rfl (ev_37 ht))) ?_
      refine WL.yes rfl rfl rfl rfl ?_
      refine WL.ex rfl rfl rfl (Ex.lss rfl rfl) ?_
      by_cases h6 : (t.to : Int) < 16
      · rw [decide_eq_true h6]
        refine WL.ex rfl rfl rfl (Ex.pickT rfl rfl) ?_
        refine WL.ex rfl rfl rfl (Ex.asg rfl) ?_
        refine WL.nil ?_
        refine WX.join (true) ?_ (.cons rfl (.cons rfl (.nil)))
        exact ⟨by simp; omega, M1⟩
      · rw [decide_eq_false h6]
        refine WL.ex rfl rfl rfl (Ex.pickT rfl rfl) ?_
        refine WL.ex rfl rfl rfl (Ex.asg rfl) ?_
        refine WL.nil ?_
        refine WX.join (false) ?_ (.cons rfl (.cons rfl (.nil)))
        exact ⟨by simp; omega, M1⟩
    · rw [decide_eq_false h5]
      refine WL.ex rfl rfl rfl (Ex.mv rfl) ?_
      refine WL.no rfl rfl rfl rfl rfl rfl ?_
      refine WL.no rfl rfl rfl rfl rfl rfl ?_
      refine WL.no rfl rfl rfl rfl rfl rfl ?_
      refine WL.ex rfl rfl rfl (Ex.pickF rfl rfl) ?_
      refine WL.ex rfl rfl rfl (Ex.asg rfl) ?_
      refine WL.nil ?_
      refine WX.join (false) ?_ (.cons rfl (.cons rfl (.nil)))
      exact ⟨by simp; omega, M1⟩
  · rintro s w17 ⟨hs, M17⟩
    refine WC.seq ?_
    refine WC.seq ?_
    refine WC.region ?_
    refine WL.ex rfl rfl rfl (Ex.fa fl45_0 rfl) ?_
    refine WL.ex rfl rfl rfl (Ex.load ty5 rfl (M17.cell (i := 0) rfl (rfl))) ?_
    refine WL.ex rfl rfl rfl (Ex.cvI Try.underlying5 Try.underlying3 rfl (i64w _ (by omega) (by omega))) ?_
    refine WL.ex rfl rfl rfl (Ex.geq rfl rfl) ?_
    by_cases h1 : (19 : Int) ≤ t.k
    · rw [decide_eq_true h1]
      refine WL.ex rfl rfl rfl (Ex.mv rfl) ?_
      refine WL.no rfl rfl rfl rfl rfl rfl ?_
      refine WL.no rfl rfl rfl rfl rfl rfl ?_
      refine WL.no rfl rfl rfl rfl rfl rfl ?_
      refine WL.ex rfl rfl rfl (Ex.pickT rfl rfl) ?_
      refine WL.ex rfl rfl rfl (Ex.mv rfl) ?_
      refine WL.no rfl rfl rfl rfl rfl rfl ?_
      refine WL.no rfl rfl rfl rfl rfl rfl ?_
      refine WL.no rfl rfl rfl rfl rfl rfl ?_
      refine WL.ex rfl rfl rfl (Ex.pickT rfl rfl) ?_
      refine WL.ex rfl rfl rfl (Ex.mv rfl) ?_
      refine WL.no rfl rfl rfl rfl rfl rfl ?_
      refine WL.no rfl rfl rfl rfl rfl rfl ?_
      refine WL.no rfl rfl rfl rfl rfl rfl ?_
      refine WL.ex rfl rfl rfl (Ex.pickT rfl rfl) ?_
      refine WL.ex rfl rfl rfl (Ex.mv rfl) ?_
      refine WL.no rfl rfl rfl rfl rfl rfl ?_
      refine WL.no rfl rfl rfl rfl rfl rfl ?_
      refine WL.ex rfl rfl rfl (Ex.pickT rfl rfl) ?_
      refine WL.nil ?_
      refine WX.next (?_)
      refine WC.yes rfl ?_
      refine WC.seq ?_
      refine WC.region ?_
      refine WL.ex rfl rfl rfl (Ex.asg rfl) ?_
      refine WL.nil ?_
      refine WX.next (?_)
      refine WC.ret ?_
      refine WX.ret_then (?_)
      refine WX.ret1 rfl rfl ?_
      exact ⟨by rw [if_neg (fun h : mayE _ => by obtain ⟨e1, e2, e3, e4, e5, e6⟩ := h; first | omega | exact hw ⟨e5, e6⟩)], M17.keep⟩
    · rw [decide_eq_false h1]
      refine WL.ex rfl rfl rfl (Ex.mv rfl) ?_
      refine WL.yes rfl rfl rfl rfl ?_
      refine WL.ex rfl rfl rfl (Ex.fa fl45_1 rfl) ?_
      refine WL.yes rfl rfl rfl rfl ?_
      refine WL.ex rfl rfl rfl (Ex.load ty29 rfl (M17.cell (i := 0) rfl (rfl))) ?_
      refine WL.yes rfl rfl rfl rfl ?_
      refine WL.ex rfl rfl rfl (Ex.gtr rfl rfl) ?_
      by_cases h2 : (1099511627776 : Int) < t.b
      · rw [decide_eq_true h2]
        refine WL.ex rfl rfl rfl (Ex.pickF rfl rfl) ?_
        refine WL.ex rfl rfl rfl (Ex.mv rfl) ?_
        refine WL.no rfl rfl rfl rfl rfl rfl ?_
        refine WL.no rfl rfl rfl rfl rfl rfl ?_
        refine WL.no rfl rfl rfl rfl rfl rfl ?_
        refine WL.ex rfl rfl rfl (Ex.pickT rfl rfl) ?_
        refine WL.ex rfl rfl rfl (Ex.mv rfl) ?_
        refine WL.no rfl rfl rfl rfl rfl rfl ?_
        refine WL.no rfl rfl rfl rfl rfl rfl ?_
        refine WL.no rfl rfl rfl rfl rfl rfl ?_
        refine WL.ex rfl rfl rfl (Ex.pickT rfl rfl) ?_
        refine WL.ex rfl rfl rfl (Ex.mv rfl) ?_
        refine WL.no rfl rfl rfl rfl rfl rfl ?_
        refine WL.no rfl rfl rfl rfl rfl rfl ?_
        refine WL.ex rfl rfl rfl (Ex.pickT rfl rfl) ?_
        refine WL.nil ?_
        refine WX.next (?_)
        refine WC.yes rfl ?_
        refine WC.seq ?_
        refine WC.region ?_
        refine WL.ex rfl rfl rfl (Ex.asg rfl) ?_
        refine WL.nil ?_
        refine WX.next (?_)
        refine WC.ret ?_
        refine WX.ret_then (?_)
        refine WX.ret1 rfl rfl ?_
        exact ⟨by rw [if_neg (fun h : mayE _ => by obtain ⟨e1, e2, e3, e4, e5, e6⟩ := h; first | omega | exact hw ⟨e5, e6⟩)], M17.keep⟩
      · rw [decide_eq_false h2]
        refine WL.ex rfl rfl rfl (Ex.pickF rfl rfl) ?_
        refine WL.ex rfl rfl rfl (Ex.mv rfl) ?_
        refine WL.yes rfl rfl rfl rfl ?_
        refine WL.ex rfl rfl rfl (Ex.fa fl45_3 rfl) ?_
        refine WL.yes rfl rfl rfl rfl ?_
        refine WL.ex rfl rfl rfl (Ex.load ty5 rfl (M17.cell (i := 0) rfl (ev_34 ht))) ?_
        refine WL.yes rfl rfl rfl rfl ?_
        refine WL.ex rfl rfl rfl (Ex.gtr rfl rfl) ?_
        by_cases h3 : (1 : Int) < t.sd
        · rw [decide_eq_true h3]
          refine WL.ex rfl rfl rfl (Ex.pickF rfl rfl) ?_
          refine WL.ex rfl rfl rfl (Ex.mv rfl) ?_
          refine WL.no rfl rfl rfl rfl rfl rfl ?_
          refine WL.no rfl rfl rfl rfl rfl rfl ?_
          refine WL.no rfl rfl rfl rfl rfl rfl ?_
          refine WL.ex rfl rfl rfl (Ex.pickT rfl rfl) ?_
          refine WL.ex rfl rfl rfl (Ex.mv rfl) ?_
          refine WL.no rfl rfl rfl rfl rfl rfl ?_
          refine WL.no rfl rfl rfl rfl rfl rfl ?_
          refine WL.ex rfl rfl rfl (Ex.pickT rfl rfl) ?_
          refine WL.nil ?_
          refine WX.next (?_)
          refine WC.yes rfl ?_
          refine WC.seq ?_
          refine WC.region ?_
          refine WL.ex rfl rfl rfl (Ex.asg rfl) ?_
          refine WL.nil ?_
          refine WX.next (?_)
          refine WC.ret ?_
          refine WX.ret_then (?_)
          refine WX.ret1 rfl rfl ?_
          exact ⟨by rw [if_neg (fun h : mayE _ => by obtain ⟨e1, e2, e3, e4, e5, e6⟩ := h; first | omega | exact hw ⟨e5, e6⟩)], M17.keep⟩
        · rw [decide_eq_false h3]
          refine WL.ex rfl rfl rfl (Ex.pickF rfl rfl) ?_
          refine WL.ex rfl rfl rfl (Ex.mv rfl) ?_
          refine WL.yes rfl rfl rfl rfl ?_
          refine WL.ex rfl rfl rfl (Ex.fa fl45_4 rfl) ?_
          refine WL.yes rfl rfl rfl rfl ?_
          refine WL.ex rfl rfl rfl (Ex.load ty5 rfl (M17.cell (i := 0) rfl (ev_35 ht))) ?_
          refine WL.yes rfl rfl rfl rfl ?_
          refine WL.ex rfl rfl rfl (Ex.geq rfl rfl) ?_
          by_cases h4 : (4 : Int) ≤ t.tk
          · rw [decide_eq_true h4]
            refine WL.ex rfl rfl rfl (Ex.pickF rfl rfl) ?_
            refine WL.ex rfl rfl rfl (Ex.mv rfl) ?_
            refine WL.no rfl rfl rfl rfl rfl rfl ?_
            refine WL.no rfl rfl rfl rfl rfl rfl ?_
            refine WL.ex rfl rfl rfl (Ex.pickT rfl rfl) ?_
            refine WL.nil ?_
            refine WX.next (?_)
            refine WC.yes rfl ?_
            refine WC.seq ?_
            refine WC.region ?_
            refine WL.ex rfl rfl rfl (Ex.asg rfl) ?_
            refine WL.nil ?_
            refine WX.next (?_)
            refine WC.ret ?_
            refine WX.ret_then (?_)
            refine WX.ret1 rfl rfl ?_
            exact ⟨by rw [if_neg (fun h : mayE _ => by obtain ⟨e1, e2, e3, e4, e5, e6⟩ := h; first | omega | exact hw ⟨e5, e6⟩)], M17.keep⟩
          · rw [decide_eq_false h4]
            refine WL.ex rfl rfl rfl (Ex.pickF rfl rfl) ?_
            refine WL.ex rfl rfl rfl (Ex.mv rfl) ?_
            refine WL.yes rfl rfl rfl rfl ?_
            refine WL.ex rfl rfl rfl (Ex.mv rfl) ?_
            rcases Bool.eq_false_or_eq_true s with hq | hq <;> subst hq
            · have hw := hs.1 rfl
              refine WL.yes rfl rfl rfl rfl ?_
              refine WL.ex rfl rfl rfl (Ex.not rfl) ?_
              refine WL.ex rfl rfl rfl (Ex.pickF rfl rfl) ?_
              refine WL.nil ?_
              refine WX.next (?_)
              refine WC.no rfl ?_
              refine WC.skip ?_
              refine WX.next (?_)
              refine WC.seq ?_
              refine WC.region ?_
              refine WL.ex rfl rfl rfl (Ex.asg rfl) ?_
              refine WL.nil ?_
              refine WX.next (?_)
              refine WC.ret ?_
              refine WX.ret1 rfl rfl ?_
              exact ⟨by rw [if_pos (show mayE _ from ⟨by omega, by omega, by omega, by omega, hw.1, hw.2⟩)], M17.keep⟩
            · have hw : ¬ (t.fr ≤ 15 ∧ t.to ≤ 15) := fun h => by have := hs.2 h; cases this
              refine WL.yes rfl rfl rfl rfl ?_
              refine WL.ex rfl rfl rfl (Ex.not rfl) ?_
              refine WL.ex rfl rfl rfl (Ex.pickF rfl rfl) ?_
              refine WL.nil ?_
              refine WX.next (?_)
              refine WC.yes rfl ?_
              refine WC.seq ?_
              refine WC.region ?_
              refine WL.ex rfl rfl rfl (Ex.asg rfl) ?_
              refine WL.nil ?_
              refine WX.next (?_)
              refine WC.ret ?_
              refine WX.ret_then (?_)
              refine WX.ret1 rfl rfl ?_
              exact ⟨by rw [if_neg (fun h : mayE _ => by obtain ⟨e1, e2, e3, e4, e5, e6⟩ := h; first | omega | exact hw ⟨e5, e6⟩)], M17.keep⟩

/- sponsion/sponsionlaw09.Refs -/
theorem refs_ok (w : World) (A : Option Addr) (c : Nat) (es : List Ev) (hr : RdE w A es) (hb : es.length ≤ 1000000) :
    Gives Try.prog 5 #[.slice A es.length c] w fun u w1 => New w w1 (row u 34 47 es.length (es.flatMap evC)) := by
  have M0 := (Mem.start w nof).free (r := row (.slice none 0 0) 34 47 0 []) (row_nil _ _ _) rfl
  refine Gives.enter (n := 18) Try.func5 rfl Try.ntmps5 rfl (env := [(0, .slice A es.length c)]) rfl ?_
  refine WC.seq ?_
  refine WC.region ?_
  refine WL.ex rfl rfl rfl (Ex.asg rfl) ?_
  refine WL.nil ?_
  refine WX.next (?_)
  refine WC.seq ?_
  refine WC.region ?_
  refine WL.ex rfl rfl rfl (Ex.asg rfl) ?_
  refine WL.nil ?_
  refine WX.next (?_)
  refine WC.seq ?_
  refine WC.seq ?_
  refine WC.region ?_
  refine WL.ex rfl rfl rfl (Ex.mv rfl) ?_
  refine WL.ex rfl rfl rfl (Ex.len Try.underlying22 rfl) ?_
  refine WL.ex rfl rfl rfl (Ex.mv rfl) ?_
  refine WL.nil ?_
  refine WX.next (?_)
  refine WC.block ?_
  refine WC.loop (σ := Nat × Value) (fun s => [(6, .slice A es.length c), (7, .int .i64 (es.length : Int)), (8, .int .i64 (s.1 : Int)), (3, s.2)]) (fun s wr => s.1 ≤ es.length ∧ Mem w wr nof [row s.2 34 47 s.1 ((es.take s.1).flatMap evC)]) (fun s => es.length - s.1) (((0, .slice none 0 0) : Nat × Value)) ?_ (.cons rfl (.cons rfl (.cons rfl (.cons rfl (.nil))))) ?_
  · exact ⟨by simp, M0⟩
  rintro ⟨i, v⟩ w6 ⟨hi, M6⟩
  dsimp only at hi M6
  refine WC.sub (env' := [(6, .slice A es.length c), (7, .int .i64 (es.length : Int)), (8, .int .i64 (i : Int)), (3, v)]) (.cons rfl (.cons rfl (.cons rfl (.cons rfl (.nil))))) ?_
  refine WC.seq ?_
  refine WC.region ?_
  refine WL.ex rfl rfl rfl (Ex.lss rfl rfl) ?_
  refine WL.nil ?_
  refine WX.next (?_)
  refine WC.seq ?_
  refine WC.cond_dec rfl (fun hc9 => ?_) (fun hc9 => ?_)
  · obtain ⟨p, hpi⟩ : ∃ p, es[i]? = some p := ⟨_, List.getElem?_eq_getElem (by omega)⟩
    have hpm : p ∈ es := List.mem_of_getElem? hpi
    have hpo := hr.ok p hpm
    obtain ⟨b0, o0, hA⟩ := hr.plain hpi
    subst hA
    refine WC.skip ?_
    refine WX.next (?_)
    refine WC.seq ?_
    refine WC.block ?_
    refine WC.seq ?_
    refine WC.region ?_
    refine WL.ex rfl rfl rfl (Ex.ia Try.underlying22 sz45 rfl rfl ⟨by omega, by omega⟩) ?_
    refine WL.ex rfl rfl rfl (Ex.loadA ty45 rfl (l := evC p) (ev_len hpo) (Rd.flat (hr.keep M6.keep).row (i := (i : Int).toNat) (fun t ht => ev_len (hr.ok t ht)) (by simpa using hpi))) ?_
    refine WL.ac rfl rfl rfl (Ac.alloc M6 (l := evC ev0) (by kernel_rfl)) ?_; rintro v10 w10 ⟨gi, rfl, hg10, K10, M10⟩
    refine WL.ac0 rfl rfl (Ac.stA M10 ty45 rfl rfl (vs := evC p) rfl (ev_len hpo) ev_one (i := 0) rfl (by rw [ev_len hpo, ev_len ev0_ok]; decide)) ?_; rintro v11 w11 ⟨K11, M11⟩
    try dsimp only [List.set] at M11
    rw [splice_all _ _ (by rw [ev_len hpo, ev_len ev0_ok])] at M11
    refine WL.nil ?_
    refine WX.next (?_)
    refine WC.region ?_
    refine WL.ex rfl rfl rfl (Ex.mv rfl) ?_
    refine WL.ex rfl rfl rfl (Ex.loadA ty45 rfl (l := evC p) (ev_len hpo) (M11.rdw (i := 0) rfl)) ?_
    refine WL.ac rfl rfl rfl (Ac.bs M11 (parts := [(0, .tmp 13)]) rfl rfl (LitS.agg1 el27 rfl (ev_len hpo) (by decide))) ?_; rintro v14 w14 ⟨gb, rfl, hg14, K14, M14⟩
    refine WL.ac rfl rfl rfl (Ac.app M14 el27 rfl rfl (i := 2) rfl (by rw [ev_len hpo]) (M14.rdw (i := 0) rfl) ev_one (by omega) (by simp [maxLen]; omega)) ?_; rintro v15 w15 ⟨K15, M15⟩
    try dsimp only [List.set] at M15
    rw [show (es.take i).flatMap evC ++ evC p = (es.take (i + 1)).flatMap evC by rw [take_snoc hpi]; simp] at M15
    refine WL.ex rfl rfl rfl (Ex.asg rfl) ?_
    refine WL.nil ?_
    refine WX.normal_block (WX.next (?_))
    refine WC.region ?_
    refine WL.ex rfl rfl rfl (Ex.add rfl rfl (i64w _ (by omega) (by omega))) ?_
    refine WL.ex rfl rfl rfl (Ex.mv rfl) ?_
    refine WL.nil ?_
    refine WX.again (((i + 1, v15) : Nat × Value)) ?_ ?_ (.cons rfl (.cons rfl (.cons rfl (.cons rfl (.nil)))))
    · (try dsimp only); omega
    · exact ⟨by dsimp only; omega, Mem.sub M15 (.cons _ (.cons _ (.refl _)))⟩
  · obtain rfl : i = es.length := by omega
    rw [List.take_of_length_le (Nat.le_refl _)] at M6
    refine WC.exit ?_
    refine WX.exit_then (WX.exit_then (WX.exit_block (WX.next (?_))))
    refine WC.seq ?_
    refine WC.region ?_
    refine WL.ex rfl rfl rfl (Ex.mv rfl) ?_
    refine WL.ex rfl rfl rfl (Ex.asg rfl) ?_
    refine WL.nil ?_
    refine WX.next (?_)
    refine WC.ret ?_
    refine WX.ret1 rfl rfl ?_
    exact M6.toNew

/- sponsion/sponsionlaw09.Same -/
theorem same_ok (w : World) (A B : Option Addr) (c d : Nat) (es fs : List Ev) (hr : RdE w A es) (hr2 : RdE w B fs) (hb : es.length ≤ 1000000) (hb2 : fs.length ≤ 1000000) :
    Gives Try.prog 7 #[.slice A es.length c, .slice B fs.length d] w fun u w1 => u = .bool (decide (es = fs)) ∧ Keep nof w w1 := by
  have M0 := Mem.start w nof
  refine Gives.enter (n := 26) Try.func7 rfl Try.ntmps7 rfl (env := [(0, .slice A es.length c), (1, .slice B fs.length d)]) rfl ?_
  refine WC.seq ?_
  refine WC.region ?_
  refine WL.ex rfl rfl rfl (Ex.asg rfl) ?_
  refine WL.nil ?_
  refine WX.next (?_)
  refine WC.seq ?_
  refine WC.seq ?_
  refine WC.region ?_
  refine WL.ex rfl rfl rfl (Ex.mv rfl) ?_
  refine WL.ex rfl rfl rfl (Ex.len Try.underlying22 rfl) ?_
  refine WL.ex rfl rfl rfl (Ex.mv rfl) ?_
  refine WL.ex rfl rfl rfl (Ex.len Try.underlying27 rfl) ?_
  refine WL.ex rfl rfl rfl (Ex.neI rfl rfl) ?_
  refine WL.nil ?_
  refine WX.next (?_)
  refine WC.cond rfl (fun hq => ?_) (fun hq => ?_)
  · have hq2 : ¬ es.length = fs.length := by have h9 : ¬ (es.length : Int) = fs.length := (by simpa using hq); omega
    refine WC.seq ?_
    refine WC.region ?_
    refine WL.ex rfl rfl rfl (Ex.asg rfl) ?_
    refine WL.nil ?_
    refine WX.next (?_)
    refine WC.ret ?_
    refine WX.ret_then (?_)
    refine WX.ret1 rfl rfl ?_
    exact ⟨congrArg Value.bool (decide_eq_false (fun h => hq2 (by rw [h]))).symm, M0.keep⟩
  · have hq2 : es.length = fs.length := by have h9 : (es.length : Int) = fs.length := (by simpa using hq); omega
    refine WC.skip ?_
    refine WX.next (?_)
    refine WC.seq ?_
    refine WC.seq ?_
    refine WC.region ?_
    refine WL.ex rfl rfl rfl (Ex.mv rfl) ?_
    refine WL.ex rfl rfl rfl (Ex.len Try.underlying22 rfl) ?_
    refine WL.ex rfl rfl rfl (Ex.mv rfl) ?_
    refine WL.nil ?_
    refine WX.next (?_)
    refine WC.block ?_
    refine WC.loop (σ := Nat) (fun i => [(0, .slice A es.length c), (1, .slice B fs.length d), (12, .int .i64 (es.length : Int)), (13, .int .i64 (i : Int))]) (fun i wr => i ≤ es.length ∧ Mem w wr nof [] ∧ es.take i = fs.take i) (fun i => es.length - i) (0) ?_ (.cons rfl (.cons rfl (.cons rfl (.cons rfl (.nil))))) ?_
    · exact ⟨by omega, M0, by simp⟩
    rintro i w11 ⟨hi, M11, htk⟩
    refine WC.seq ?_
    refine WC.region ?_
    refine WL.ex rfl rfl rfl (Ex.lss rfl rfl) ?_
    refine WL.nil ?_
    refine WX.next (?_)
    refine WC.seq ?_
    refine WC.cond_dec rfl (fun hc14 => ?_) (fun hc14 => ?_)
    · obtain ⟨p, hpi⟩ : ∃ p, es[i]? = some p := ⟨_, List.getElem?_eq_getElem (by omega)⟩
      have hpm : p ∈ es := List.mem_of_getElem? hpi
      have hpo := hr.ok p hpm
      obtain ⟨b0, o0, hA⟩ := hr.plain hpi
      subst hA
      obtain ⟨q, hqi⟩ : ∃ q, fs[i]? = some q := ⟨_, List.getElem?_eq_getElem (by omega)⟩
      have hqo := hr2.ok q (List.mem_of_getElem? hqi)
      obtain ⟨b1, o1, hB⟩ := hr2.plain hqi
      subst hB
      refine WC.skip ?_
      refine WX.next (?_)
      refine WC.seq ?_
      refine WC.block ?_
      refine WC.seq ?_
      refine WC.region ?_
      refine WL.ex rfl rfl rfl (Ex.mv rfl) ?_
      refine WL.ex rfl rfl rfl (Ex.asg rfl) ?_
      refine WL.nil ?_
      refine WX.next (?_)
      refine WC.seq ?_
      refine WC.draw (Keep nof w11.drew) [] (.one 0 0 (.one 1 0 (.one 2 0 (.one 4 0 (.one 5 0 (.one 6 0 (.one 3 1 (.one 7 1 (.one 8 0 .nil))))))))) mixed (by kernel_rfl) (by kernel_rfl) (by kernel_rfl) (HQ.then_ (HQ.block (HQ.then_ (HQ.then_ (HQ.block (HQ.then_ HQ.body)))))) ?_
      obtain ⟨w15, hw15⟩ : ∃ v, v = w11.drew := ⟨_, rfl⟩
      have D15 : Keep nof w11 w15 := by rw [hw15]; exact Keep.drew _ _
      have M15 := M11.step D15
      rw [← hw15]; clear hw15
      refine WP.p rfl rfl rfl rfl (fun _ => Ex.mv rfl) ?_
      refine WP.p rfl rfl rfl rfl (fun _ => Ex.mv rfl) ?_
      refine WP.p rfl rfl rfl rfl (fun _ => Ex.ia Try.underlying22 sz45 rfl rfl ⟨by omega, by omega⟩) ?_
      refine WP.p rfl rfl rfl rfl (fun _ => Ex.mv rfl) ?_
      refine WP.p rfl rfl rfl rfl (fun _ => Ex.mv rfl) ?_
      refine WP.p rfl rfl rfl rfl (fun _ => Ex.ia Try.underlying27 sz34 rfl rfl ⟨by omega, by omega⟩) ?_
      refine WP.q (Keep.refl _ _) rfl rfl rfl rfl (fun w' hS => Ex.loadA ty45 rfl (l := evC p) (ev_len hpo) (Rd.flat (hr.keep (M15.keep.trans hS)).row (i := (i : Int).toNat) (fun t ht => ev_len (hr.ok t ht)) (by simpa using hpi))) ?_
      refine WP.q (Keep.refl _ _) rfl rfl rfl rfl (fun w' hS => Ex.loadA ty34 rfl (l := evC q) (ev_len hqo) (Rd.flat (hr2.keep (M15.keep.trans hS)).row (i := (i : Int).toNat) (fun t ht => ev_len (hr2.ok t ht)) (by simpa using hqi))) ?_
      refine WP.p rfl rfl rfl rfl (fun _ => Ex.neA rfl rfl (eqEv w hpo hqo)) ?_
      refine WP.nil ?_
      refine WX.next (?_)
      refine WC.cond rfl (fun hpq => ?_) (fun hpq => ?_)
      · have hpq2 : ¬ p = q := by simpa using hpq
        refine WC.seq ?_
        refine WC.region ?_
        refine WL.ex rfl rfl rfl (Ex.asg rfl) ?_
        refine WL.nil ?_
        refine WX.next (?_)
        refine WC.ret ?_
        refine WX.ret_block (WX.ret_then (WX.ret_then (WX.ret_block (WX.ret_then (?_)))))
        refine WX.ret1 rfl rfl ?_
        exact ⟨congrArg Value.bool (decide_eq_false (fun h => hpq2 (by rw [h] at hpi; exact Option.some.inj (hpi.symm.trans hqi)))).symm, M15.keep⟩
      · replace hpq : p = q := by simpa using hpq
        refine WC.skip ?_
        refine WX.normal_block (WX.next (?_))
        refine WC.region ?_
        refine WL.ex rfl rfl rfl (Ex.add rfl rfl (i64w _ (by omega) (by omega))) ?_
        refine WL.ex rfl rfl rfl (Ex.mv rfl) ?_
        refine WL.nil ?_
        refine WX.again (i + 1) ?_ ?_ (.cons rfl (.cons rfl (.cons rfl (.cons rfl (.nil)))))
        · (try dsimp only); omega
        · exact ⟨by omega, M15, by rw [take_snoc hpi, take_snoc hqi, htk, hpq]⟩
    · obtain rfl : i = es.length := by omega
      rw [List.take_length, List.take_of_length_le (by omega)] at htk
      refine WC.exit ?_
      refine WX.exit_then (WX.exit_then (WX.exit_block (WX.next (?_))))
      refine WC.seq ?_
      refine WC.region ?_
      refine WL.ex rfl rfl rfl (Ex.asg rfl) ?_
      refine WL.nil ?_
      refine WX.next (?_)
      refine WC.ret ?_
      refine WX.ret1 rfl rfl ?_
      exact ⟨congrArg Value.bool (decide_eq_true htk).symm, M11.keep⟩

end Go.Proofs.Ytjbgdkdoniacgaa
