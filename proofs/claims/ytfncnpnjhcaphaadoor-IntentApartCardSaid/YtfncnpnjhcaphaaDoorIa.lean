/- Walks, written by gen.py off the translation's own print: each says what the Go function comes to. -/
import Derived.Test.YtfncnpnjhcaphaaDoorHb
import Derived.Test.YtfncnpnjhcaphaaDoorGb
import Derived.Test.YtfncnpnjhcaphaaDoorFa
set_option linter.unusedVariables false
set_option linter.unusedSimpArgs false
namespace Go.Proofs.YtfncnpnjhcaphaaDoor
open Go.Sx Go.RowKit
attribute [local irreducible] Ac Ex WL WC WX WP Gives sha

/- sponsion/sponsionlaw06.texts -/
theorem texts_ok (w : World) (A : Option Addr) (c : Nat) (ps : List SV) (hr : RdP w A ps) (hn : ps.length ≤ 1000000) :
    Gives Tryd.prog 24 #[.slice A ps.length c] w fun u w1 => New w w1 (row u 9 1 (ps.map (·.l)).length ((ps.map (·.l)).map str)) := by
  have M0 := (Mem.start w nof).free (r := row (.slice none 0 0) 9 1 0 []) (row_nil _ _ _) rfl
  refine Gives.enter (n := 19) Tryd.func24 rfl Tryd.ntmps24 rfl (env := [(0, .slice A ps.length c)]) rfl ?_
  refine WC.seq ?_
  refine WC.region ?_
  refine WL.ex rfl rfl rfl (Ex.asg rfl) ?_
  refine WL.nil ?_
  refine WX.next (?_)
  refine WC.seq ?_
  refine WC.region ?_
  refine WL.ex rfl rfl rfl (Ex.asg rfl) ?_
  refine WL.nil ?_
  refine WX.next (?_)
  refine WC.seq ?_
  refine WC.seq ?_
  refine WC.region ?_
  refine WL.ex rfl rfl rfl (Ex.mv rfl) ?_
  refine WL.ex rfl rfl rfl (Ex.len Tryd.underlying29 rfl) ?_
  refine WL.ex rfl rfl rfl (Ex.mv rfl) ?_
  refine WL.nil ?_
  refine WX.next (?_)
  refine WC.block ?_
  refine WC.loop (σ := Nat × Value) (fun s => [(3, s.2), (6, .slice A ps.length c), (7, .int .i64 (ps.length : Int)), (8, .int .i64 (s.1 : Int))]) (fun s wr => s.1 ≤ ps.length ∧ Mem w wr nof [row s.2 9 1 s.1 (((ps.take s.1).map (·.l)).map str)]) (fun s => ps.length - s.1) (((0, .slice none 0 0) : Nat × Value)) ?_ (.cons rfl (.cons rfl (.cons rfl (.cons rfl (.nil))))) ?_
  · exact ⟨by simp, M0⟩
  rintro ⟨i, v⟩ w6 ⟨hi, M6⟩
  dsimp only at hi M6
  refine WC.sub (env' := [(3, v), (6, .slice A ps.length c), (7, .int .i64 (ps.length : Int)), (8, .int .i64 (i : Int))]) (.cons rfl (.cons rfl (.cons rfl (.cons rfl (.nil))))) ?_
  refine WC.seq ?_
  refine WC.region ?_
  refine WL.ex rfl rfl rfl (Ex.lss rfl rfl) ?_
  refine WL.nil ?_
  refine WX.next (?_)
  refine WC.seq ?_
  refine WC.cond_dec rfl (fun hin => ?_) (fun hin => ?_)
  · obtain ⟨p, hpi⟩ : ∃ p, ps[i]? = some p := ⟨_, List.getElem?_eq_getElem (by omega)⟩
    have hpm : p ∈ ps := List.mem_of_getElem? hpi
    obtain ⟨b0, o0, hA, _⟩ := hr.1.plain (by simp; omega)
    subst hA
    refine WC.skip ?_
    refine WX.next (?_)
    refine WC.seq ?_
    refine WC.block ?_
    refine WC.seq ?_
    refine WC.region ?_
    refine WL.ex rfl rfl rfl (Ex.ia Tryd.underlying29 sz22 rfl rfl ⟨by omega, by omega⟩) ?_
    refine WL.ex rfl rfl rfl (Ex.load ty22 rfl (Rd.at1 (u := svV p) (hr.1.keep0 M6.keep) (j := (i : Int).toNat * 1) (by simp [hpi]))) ?_
    refine WL.ex rfl rfl rfl (Ex.asg rfl) ?_
    refine WL.nil ?_
    refine WX.next (?_)
    refine WC.region ?_
    refine WL.ex rfl rfl rfl (Ex.mv rfl) ?_
    refine WL.ex rfl rfl rfl (Ex.mv rfl) ?_
    refine WL.ex rfl rfl rfl (Ex.cvBS Tryd.underlying22 Tryd.underlying5 Tryd.underlying9 rfl (M6.rd (hr.2 p hpm))) ?_
    refine WL.ac rfl rfl rfl (Ac.bs M6 (parts := [(0, .tmp 14)]) (l := [str p.l]) rfl rfl (LitS.one el41 rfl)) ?_; rintro v14 w14 ⟨gl, rfl, hg14, K14, M14⟩
    refine WL.ac rfl rfl rfl (Ac.app M14 el41 rfl rfl (i := 1) rfl rfl (M14.rdw (i := 0) rfl) (by simp [str, Value.oneCell']) (by omega) (by simp [maxLen]; omega)) ?_; rintro v15 w15 ⟨K15, M15⟩
    try dsimp only [List.set] at M15
    obtain ⟨v2, rfl⟩ : ∃ v2, v2 = v15 := ⟨_, rfl⟩
    replace M15 := M15.eqv (i := 1) rfl (r' := row v2 9 1 (i + 1) (((ps.take (i + 1)).map (·.l)).map str)) (by rw [take_snoc hpi]; simp)
    try dsimp only [List.set] at M15
    refine WL.ex rfl rfl rfl (Ex.asg rfl) ?_
    refine WL.nil ?_
    refine WX.normal_block (WX.next (?_))
    refine WC.region ?_
    refine WL.ex rfl rfl rfl (Ex.add rfl rfl (i64w _ (by omega) (by omega))) ?_
    refine WL.ex rfl rfl rfl (Ex.mv rfl) ?_
    refine WL.nil ?_
    refine WX.again (((i + 1, v2) : Nat × Value)) ?_ ?_ (.cons rfl (.cons rfl (.cons rfl (.cons rfl (.nil)))))
    · (try dsimp only); omega
    · exact ⟨by dsimp only; omega, (Mem.sub M15 (.cons _ (.refl _)))⟩
  · obtain rfl : i = ps.length := by omega
    rw [List.take_length] at M6
    refine WC.exit ?_
    refine WX.exit_then (WX.exit_then (WX.exit_block (WX.next (?_))))
    refine WC.seq ?_
    refine WC.region ?_
    refine WL.ex rfl rfl rfl (Ex.mv rfl) ?_
    refine WL.ex rfl rfl rfl (Ex.asg rfl) ?_
    refine WL.nil ?_
    refine WX.next (?_)
    refine WC.ret ?_
    refine WX.ret1 rfl rfl ?_
    have hN := (M6).toNew
    rw [show (ps.map (·.l)).length = ps.length by simp]
    exact hN

theorem few_len {ps : List SV} (h : fewP ps) (tag : Nat) : (txt tag (ps.map (·.l))).length ≤ 1000000000 := by
  have h4 : ∀ l : List SV, (∀ p ∈ l, p.l.length ≤ 100) → ((l.map (·.l)).map fun p => p.length + 4).sum ≤ 104 * l.length := by
    intro l
    induction l with
    | nil => simp
    | cons a r ih =>
      intro hl
      have h1 := ih fun p hp => hl p (by simp [hp])
      have h2 := hl a (by simp)
      simp only [List.map_cons, List.sum_cons, List.length_cons]
      omega
  rw [txt_length]
  have h1 := h4 ps h.1
  have h2 := h.2
  omega
theorem few_small {ps : List SV} (h : fewP ps) : ∀ p ∈ ps.map (·.l), p.length < 4294967296 := fun p hp => by
  obtain ⟨q, hq, rfl⟩ := List.mem_map.1 hp
  have := h.1 q hq
  omega

/- sponsion/sponsionlaw06.DomainTexts -/
theorem domainTexts_walk (w : World) (tag : Nat) (A : Option Addr) (c : Nat) (ps : List SV) (ht : tag < 256) (hr : RdP w A ps) (hT : Tabs w) (hR : TabR w) (hn : ps.length ≤ 9223372036854775807) :
    Gives Tryd.prog 7 #[.int .u8 (tag : Int), .slice A ps.length c] w fun u w1 => u = .bool true ∧ Keep nof w w1 := by
  have M0 := Mem.start w nof
  refine Gives.enter (n := 32) Tryd.func7 rfl Tryd.ntmps7 rfl (env := [(0, .int .u8 (tag : Int)), (1, .slice A ps.length c)]) rfl ?_
  refine WC.seq ?_
  refine WC.region ?_
  refine WL.ex rfl rfl rfl (Ex.asg rfl) ?_
  refine WL.nil ?_
  refine WX.next (?_)
  refine WC.seq ?_
  refine WC.seq ?_
  refine WC.region ?_
  refine WL.ac rfl rfl rfl (Ac.call rfl Tryd.func20 nm20 rfl (lives06_ok w)) ?_; rintro v2 w2 ⟨rfl, K2⟩
  have M2 := M0.step K2
  refine WL.ex rfl rfl rfl (Ex.not rfl) ?_
  refine WL.ex rfl rfl rfl (Ex.mv rfl) ?_
  refine WL.yes rfl rfl rfl rfl ?_
  refine WL.ex rfl rfl rfl (Ex.mv rfl) ?_
  refine WL.yes rfl rfl rfl rfl ?_
  refine WL.ac rfl rfl rfl (Ac.call rfl Tryd.func21 nm21 rfl (few_ok w2 A c ps (hr.keep M2.keep) hn)) ?_; rintro v6 w6 ⟨rfl, K6⟩
  have M6 := M2.step K6
  by_cases hf : fewP ps
  · rw [decide_eq_true hf]
    have hf6 := hf.2
    have hfl := few_len hf tag
    obtain ⟨X, hX⟩ : ∃ X, X = txt tag (ps.map (·.l)) := ⟨_, rfl⟩
    refine WL.yes rfl rfl rfl rfl ?_
    refine WL.ex rfl rfl rfl (Ex.not rfl) ?_
    refine WL.ex rfl rfl rfl (Ex.pickF rfl rfl) ?_
    refine WL.nil ?_
    refine WX.next (?_)
    refine WC.no rfl ?_
    refine WC.skip ?_
    refine WX.next (?_)
    refine WC.seq ?_
    refine WC.draw (Keep nof w6.drew) [2] (.one 0 0 (.one 1 0 (.one 4 0 (.one 5 0 (.one 2 2 (.one 3 1 (.one 6 2 (.one 7 2 (.one 8 0 (.one 9 0 (.one 10 0 (.one 11 0 (.one 13 0 (.one 14 0 (.one 12 2 (.one 15 2 (.one 16 2 (.one 17 0 (.one 18 0 (.one 19 0 .nil)))))))))))))))))))) mixed (by kernel_rfl) (by kernel_rfl) (by kernel_rfl) (HQ.then_ HQ.body) ?_
    obtain ⟨w9, hw9⟩ : ∃ v, v = w6.drew := ⟨_, rfl⟩
    have D9 : Keep nof w6 w9 := by rw [hw9]; exact Keep.drew _ _
    have M9 := M6.step D9
    rw [← hw9]; clear hw9
    refine WP.p rfl rfl rfl rfl (fun _ => Ex.mv rfl) ?_
    refine WP.p rfl rfl rfl rfl (fun _ => Ex.mv rfl) ?_
    refine WP.p rfl rfl rfl rfl (fun _ => Ex.mv rfl) ?_
    refine WP.p rfl rfl rfl rfl (fun _ => Ex.mv rfl) ?_
    refine WP.a rfl rfl rfl rfl (Ac.call rfl Tryd.func22 nm22 rfl (text_ok w9 tag A c ps ht (hr.keep M9.keep) (fewP_small hf) (by omega))) ?_; rintro v14 w14 N14; refine .inl ⟨rfl, Keep nof w14, ?_⟩
    have M14 := M9.new N14
    obtain ⟨A14, c14, rfl⟩ := own_slice (M14.get (i := 0) rfl)
    refine WP.q (Keep.refl _ _) rfl rfl rfl rfl (fun w' hS => Ex.cvBS Tryd.underlying22 Tryd.underlying5 Tryd.underlying9 rfl ((M14.rdr (i := 0) rfl).keep0 hS)) ?_
    refine WP.as rfl rfl rfl rfl (Ac.call rfl Tryd.func24 nm24 rfl (texts_ok w14 A c ps (hr.keep M14.keep) (by omega))) ?_; rintro v16 w16 N16
    refine ⟨Keep nof w16, fun u h => N16.keep.trans h, Keep.refl _ _, ?_⟩
    have M16 := M14.new N16
    obtain ⟨A16, c16, rfl⟩ := own_slice (M16.get (i := 0) rfl)
    refine WP.as rfl rfl rfl rfl (Ac.call rfl Tryd.func23 nm23 rfl (text6_ok w16 tag _ _ (ps.map (·.l)) ht (M16.rdr (i := 0) rfl) (few_small hf) (by omega) (by simp; omega))) ?_; rintro v17 w17 ⟨rfl, K17⟩
    refine ⟨Keep nof w17, fun u h => K17.trans h, Keep.refl _ _, ?_⟩
    have M17 := M16.step K17
    refine WP.p rfl rfl rfl rfl (fun _ => Ex.eqS rfl rfl) ?_
    rw [decide_eq_true rfl]
    refine WP.p rfl rfl rfl rfl (fun _ => Ex.mv rfl) ?_
    refine WP.py rfl rfl rfl rfl rfl rfl (fun _ => Ex.mv rfl) ?_
    refine WP.py rfl rfl rfl rfl rfl rfl (fun _ => Ex.mv rfl) ?_
    refine WP.py rfl rfl rfl rfl rfl rfl (fun _ => Ex.mv rfl) ?_
    refine WP.py rfl rfl rfl rfl rfl rfl (fun _ => Ex.mv rfl) ?_
    refine WP.ays rfl rfl rfl rfl rfl rfl (Ac.call rfl Tryd.func25 nm25 rfl (domOf_ok w17 tag A c ps ht (hr.keep M17.keep) (hT.keep M17.keep) (fewP_small hf) (by omega))) ?_; rintro v24 w24 ⟨rfl, K24⟩
    refine ⟨Keep nof w24, fun u h => K24.trans h, Keep.refl _ _, ?_⟩
    have M24 := M17.step K24
    refine WP.ays rfl rfl rfl rfl rfl rfl (Ac.call rfl Tryd.func24 nm24 rfl (texts_ok w24 A c ps (hr.keep M24.keep) (by omega))) ?_; rintro v25 w25 N25
    refine ⟨Keep nof w25, fun u h => N25.keep.trans h, Keep.refl _ _, ?_⟩
    have M25 := M24.new N25
    obtain ⟨A25, c25, rfl⟩ := own_slice (M25.get (i := 0) rfl)
    refine WP.ays rfl rfl rfl rfl rfl rfl (Ac.call rfl Tryd.func26 nm26 rfl (refOf_ok w25 tag _ _ (ps.map (·.l)) ht (M25.rdr (i := 0) rfl) (hR.keep0 M25.keep) (few_small hf) (by omega) (by simp; omega))) ?_; rintro v26 w26 ⟨rfl, K26⟩
    refine ⟨Keep nof w26, fun u h => K26.trans h, Keep.refl _ _, ?_⟩
    have M26 := M25.step K26
    refine WP.py rfl rfl rfl rfl rfl rfl (fun _ => Ex.eqA rfl rfl (eqHash w (dOf_len tag _) (dOf_len tag _))) ?_
    rw [decide_eq_true rfl]
    refine WP.p rfl rfl rfl rfl (fun _ => Ex.pickT rfl rfl) ?_
    refine WP.p rfl rfl rfl rfl (fun _ => Ex.asg rfl) ?_
    refine WP.nil ?_
    refine WX.next (?_)
    refine WC.ret ?_
    refine WX.ret1 rfl rfl ?_
    exact ⟨rfl, M26.keep⟩
  · rw [decide_eq_false hf]
    refine WL.yes rfl rfl rfl rfl ?_
    refine WL.ex rfl rfl rfl (Ex.not rfl) ?_
    refine WL.ex rfl rfl rfl (Ex.pickF rfl rfl) ?_
    refine WL.nil ?_
    refine WX.next (?_)
    refine WC.yes rfl ?_
    refine WC.seq ?_
    refine WC.region ?_
    refine WL.ac rfl rfl rfl (Ac.call rfl Tryd.func20 nm20 rfl (lives06_ok w6)) ?_; rintro v32 w32 ⟨rfl, K32⟩
    have M32 := M6.step K32
    refine WL.ex rfl rfl rfl (Ex.asg rfl) ?_
    refine WL.nil ?_
    refine WX.next (?_)
    refine WC.ret ?_
    refine WX.ret_then (?_)
    refine WX.ret1 rfl rfl ?_
    exact ⟨rfl, M32.keep⟩

end Go.Proofs.YtfncnpnjhcaphaaDoor
