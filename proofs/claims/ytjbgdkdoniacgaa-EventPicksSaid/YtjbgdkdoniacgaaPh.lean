/- Walks, written by gen.py off the translation's own print: each says what the Go function comes to. -/
import Derived.Test.YtjbgdkdoniacgaaPg
set_option linter.unusedVariables false
set_option linter.unusedSimpArgs false
namespace Go.Proofs.Ytjbgdkdoniacgaa
open Go.Sx Go.RowKit
attribute [local irreducible] Ac Ex WL WC WX WP Gives

theorem dl_yes {q : Ev → Bool} {es : List Ev} {i : Nat} {p : Ev} (h : es[i]? = some p) (hq : q p = false) : dl q (es.take (i + 1)) = dl q (es.take i) ++ [p] := by rw [take_snoc h]; simp [dl, List.filter_append, hq]
theorem dl_no {q : Ev → Bool} {es : List Ev} {i : Nat} {p : Ev} (h : es[i]? = some p) (hq : q p = true) : dl q (es.take (i + 1)) = dl q (es.take i) := by rw [take_snoc h]; simp [dl, List.filter_append, hq]
theorem flat_one_ev (es : List Ev) : ∀ u ∈ es.flatMap evC, u.oneCell' = true := by
  intro u hu
  obtain ⟨t, _, h⟩ := List.mem_flatMap.1 hu
  exact ev_one u h
theorem hasT {ks : List UInt8} {j k : Nat} {b : UInt8} (h : ks[j]? = some b) (hb : true = decide (k ∈ (ks.take j).map UInt8.toNat)) : true = decide (k ∈ (ks.take (j + 1)).map UInt8.toNat) := by
  rw [take_snoc h, List.map_append]
  exact (decide_eq_true (List.mem_append_left _ (of_decide_eq_true hb.symm))).symm
theorem hasF {ks : List UInt8} {j k : Nat} {b : UInt8} (h : ks[j]? = some b) (hb : false = decide (k ∈ (ks.take j).map UInt8.toNat)) : decide ((b.toNat : Int) = (k : Int)) = decide (k ∈ (ks.take (j + 1)).map UInt8.toNat) := by
  rw [take_snoc h, List.map_append]
  refine decide_eq_decide.2 ⟨fun h1 => List.mem_append_right _ (by simp; omega), fun h1 => ?_⟩
  rcases List.mem_append.1 h1 with h2 | h2
  · rw [decide_eq_true h2] at hb; cases hb
  · simp at h2; omega

/- sponsion/event.Of$1 -/
theorem of1_ok (w : World) (gi gk : Nat) (t : Ev) (id : List UInt8) (A : Option Addr) (c : Nat) (ks : List UInt8) (ht : EvOk t) (hI : id.length = 32) (hid : Rd w (some ⟨gi, 0, none⟩) (bytesV id)) (hks : w.cell? ⟨gk, 0, none⟩ = some (.slice A ks.length c)) (hk : Rd w A (bytesV ks)) (hb : ks.length ≤ 1000000) :
    Gives Try.prog 13 #[.agg (evC t).toArray, .pointer (some ⟨gi, 0, none⟩), .pointer (some ⟨gk, 0, none⟩)] w fun u w1 => u = .bool (outP id ks t) ∧ Keep nof w w1 := by
  have M0 := Mem.start w nof
  refine Gives.enter (n := 16) Try.func13 rfl Try.ntmps13 rfl (env := [(0, .agg (evC t).toArray), (1, .pointer (some ⟨gi, 0, none⟩)), (2, .pointer (some ⟨gk, 0, none⟩))]) rfl ?_
  refine WC.seq ?_
  refine WC.region ?_
  refine WL.ac rfl rfl rfl (Ac.box M0 (l := evC t) rfl rfl) ?_; rintro v1 w1 ⟨gb, rfl, hg1, K1, M1⟩
  refine WL.ex rfl rfl rfl (Ex.asg rfl) ?_
  refine WL.nil ?_
  refine WX.next (?_)
  refine WC.seq ?_
  refine WC.region ?_
  refine WL.ex rfl rfl rfl (Ex.fa fl45_2 rfl) ?_
  refine WL.ex rfl rfl rfl (Ex.loadA ty24 rfl (l := bytesV t.id) (by simpa using ht.id) (M1.rdt (i := 0) rfl (ev_2 ht))) ?_
  refine WL.ex rfl rfl rfl (Ex.loadA ty24 rfl (l := bytesV id) (by simpa using hI) (M1.rd hid)) ?_
  refine WL.ex rfl rfl rfl (Ex.neA rfl rfl (eqHash w ht.id hI)) ?_
  refine WL.ex rfl rfl rfl (Ex.mv rfl) ?_
  by_cases h1 : ¬ t.id = id
  · rw [decide_eq_false h1]
    have ho : outP id ks t = true := by rw [outP, decide_eq_false h1]; rfl
    refine WL.no rfl rfl rfl rfl rfl rfl ?_
    refine WL.no rfl rfl rfl rfl rfl rfl ?_
    refine WL.no rfl rfl rfl rfl rfl rfl ?_
    refine WL.no rfl rfl rfl rfl rfl rfl ?_
    refine WL.no rfl rfl rfl rfl rfl rfl ?_
    refine WL.ex rfl rfl rfl (Ex.pickT rfl rfl) ?_
    refine WL.ex rfl rfl rfl (Ex.asg rfl) ?_
    refine WL.nil ?_
    refine WX.next (?_)
    refine WC.ret ?_
    refine WX.ret1 rfl rfl ?_
    rw [ho]
    exact ⟨rfl, M1.keep⟩
  · rw [decide_eq_true (Decidable.not_not.1 h1)]
    have ho : outP id ks t = !decide (t.k ∈ ks.map UInt8.toNat) := by rw [outP, decide_eq_true (Decidable.not_not.1 h1)]; rfl
    refine WL.yes rfl rfl rfl rfl ?_
    refine WL.ex rfl rfl rfl (Ex.load ty25 rfl (M1.keep.cell hks (fun f => f))) ?_
    refine WL.yes rfl rfl rfl rfl ?_
    refine WL.ex rfl rfl rfl (Ex.fa fl45_0 rfl) ?_
    refine WL.yes rfl rfl rfl rfl ?_
    refine WL.ex rfl rfl rfl (Ex.load ty5 rfl (M1.cell (i := 0) (v := .int .u8 (t.k : Int)) rfl rfl)) ?_
    refine WL.yes rfl rfl rfl rfl ?_
    refine WL.ac rfl rfl rfl (Ac.call rfl Try.func14 nm14 rfl (has8_ok w1 A c ks t.k (M1.rd hk) hb)) ?_; rintro v13 w13 ⟨rfl, K13⟩
    have M13 := M1.step K13
    refine WL.yes rfl rfl rfl rfl ?_
    refine WL.ex rfl rfl rfl (Ex.not rfl) ?_
    refine WL.ex rfl rfl rfl (Ex.pickF rfl rfl) ?_
    refine WL.ex rfl rfl rfl (Ex.asg rfl) ?_
    refine WL.nil ?_
    refine WX.next (?_)
    refine WC.ret ?_
    refine WX.ret1 rfl rfl ?_
    rw [ho]
    exact ⟨rfl, M13.keep⟩

/- slices.IndexFunc[[]sponsion/event.Event,sponsion/event.Event] -/
theorem ixF_ok (w : World) (A : Option Addr) (c : Nat) (es : List Ev) (fv : Value) (q : Ev → Bool) (hr : RdE w A es) (hb : es.length ≤ 1000000) (hq : PredV fv (Keep nof w) q) :
    Gives Try.prog 26 #[.slice A es.length c, fv] w fun u w1 => u = .int .i64 (if fW q es < es.length then ((fW q es : Nat) : Int) else -1) ∧ Keep nof w w1 := by
  have M0 := Mem.start w nof
  refine Gives.enter (n := 19) Try.func26 rfl Try.ntmps26 rfl (env := [(0, .slice A es.length c), (1, fv)]) rfl ?_
  refine WC.seq ?_
  refine WC.region ?_
  refine WL.ex rfl rfl rfl (Ex.asg rfl) ?_
  refine WL.nil ?_
  refine WX.next (?_)
  refine WC.seq ?_
  refine WC.seq ?_
  refine WC.region ?_
  refine WL.ex rfl rfl rfl (Ex.mv rfl) ?_
  refine WL.ex rfl rfl rfl (Ex.len Try.underlying22 rfl) ?_
  refine WL.ex rfl rfl rfl (Ex.mv rfl) ?_
  refine WL.nil ?_
  refine WX.next (?_)
  refine WC.block ?_
  refine WC.loop (σ := Nat) (fun i => [(0, .slice A es.length c), (1, fv), (7, .int .i64 (es.length : Int)), (8, .int .i64 (i : Int))]) (fun i wr => i ≤ es.length ∧ (∀ s ∈ es.take i, q s = false) ∧ Mem w wr nof []) (fun i => es.length - i) (0) ?_ (.cons rfl (.cons rfl (.cons rfl (.cons rfl (.nil))))) ?_
  · exact ⟨by omega, by simp, M0⟩
  rintro i w5 ⟨hi, hn, M5⟩
  refine WC.seq ?_
  refine WC.region ?_
  refine WL.ex rfl rfl rfl (Ex.lss rfl rfl) ?_
  refine WL.nil ?_
  refine WX.next (?_)
  refine WC.seq ?_
  refine WC.cond_dec rfl (fun hc9 => ?_) (fun hc9 => ?_)
  · obtain ⟨p, hpi⟩ : ∃ p, es[i]? = some p := ⟨_, List.getElem?_eq_getElem (by omega)⟩
    have hpm : p ∈ es := List.mem_of_getElem? hpi
    have hpo := hr.ok p hpm
    obtain ⟨b0, o0, hA⟩ := hr.plain hpi
    subst hA
    refine WC.skip ?_
    refine WX.next (?_)
    refine WC.seq ?_
    refine WC.block ?_
    refine WC.seq ?_
    refine WC.region ?_
    refine WL.ex rfl rfl rfl (Ex.mv rfl) ?_
    refine WL.ex rfl rfl rfl (Ex.asg rfl) ?_
    refine WL.nil ?_
    refine WX.next (?_)
    refine WC.seq ?_
    refine WC.region ?_
    refine WL.ex rfl rfl rfl (Ex.mv rfl) ?_
    refine WL.ex rfl rfl rfl (Ex.mv rfl) ?_
    refine WL.ex rfl rfl rfl (Ex.mv rfl) ?_
    refine WL.ex rfl rfl rfl (Ex.ia Try.underlying22 sz45 rfl rfl ⟨by omega, by omega⟩) ?_
    refine WL.ex rfl rfl rfl (Ex.loadA ty45 rfl (l := evC p) (ev_len hpo) (Rd.flat (hr.keep M5.keep).row (i := (i : Int).toNat) (fun t ht => ev_len (hr.ok t ht)) (by simpa using hpi))) ?_
    refine WL.ac rfl rfl rfl (Ac.callv rfl rfl (hq w5 p M5.keep hpo)) ?_; rintro v14 w14 ⟨rfl, K14⟩
    have M14 := M5.step K14
    refine WL.nil ?_
    refine WX.next (?_)
    refine WC.cond rfl (fun h16 => ?_) (fun h16 => ?_)
    · have hfw := fW_hit hpi h16 hn
      refine WC.seq ?_
      refine WC.region ?_
      refine WL.ex rfl rfl rfl (Ex.mv rfl) ?_
      refine WL.ex rfl rfl rfl (Ex.asg rfl) ?_
      refine WL.nil ?_
      refine WX.next (?_)
      refine WC.ret ?_
      refine WX.ret_block (WX.ret_then (WX.ret_then (WX.ret_block (WX.ret_then (?_)))))
      refine WX.ret1 rfl rfl ?_
      first | rw [hfw, if_pos (by omega)] | rw [hfw, if_neg (by omega)]
      exact ⟨rfl, M14.keep⟩
    · skip
      refine WC.skip ?_
      refine WX.normal_block (WX.next (?_))
      refine WC.region ?_
      refine WL.ex rfl rfl rfl (Ex.add rfl rfl (i64w _ (by omega) (by omega))) ?_
      refine WL.ex rfl rfl rfl (Ex.mv rfl) ?_
      refine WL.nil ?_
      refine WX.again (i + 1) ?_ ?_ (.cons rfl (.cons rfl (.cons rfl (.cons rfl (.nil)))))
      · (try dsimp only); omega
      · refine ⟨by omega, ?_, M14⟩
        rw [take_snoc hpi]
        intro s hs
        rcases List.mem_append.1 hs with h | h
        · exact hn s h
        · obtain rfl : s = p := by simpa using h
          exact h16
  · obtain rfl : i = es.length := by omega
    rw [List.take_length] at hn
    have hfw := fW_none hn
    refine WC.exit ?_
    refine WX.exit_then (WX.exit_then (WX.exit_block (WX.next (?_))))
    refine WC.seq ?_
    refine WC.region ?_
    refine WL.ex rfl rfl rfl (Ex.asg rfl) ?_
    refine WL.nil ?_
    refine WX.next (?_)
    refine WC.ret ?_
    refine WX.ret1 rfl rfl ?_
    first | rw [hfw, if_pos (by omega)] | rw [hfw, if_neg (by omega)]
    exact ⟨rfl, M5.keep⟩

end Go.Proofs.Ytjbgdkdoniacgaa
