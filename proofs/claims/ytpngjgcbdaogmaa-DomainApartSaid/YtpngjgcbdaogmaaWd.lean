/- Walks, written by gen.py off the translation's own print: each says what the Go function comes to. -/
import Derived.Test.YtpngjgcbdaogmaaWc
set_option linter.unusedVariables false
set_option linter.unusedSimpArgs false
namespace Go.Proofs.Ytpngjgcbdaogmaa
open Go.Sx Go.RowKit
attribute [local irreducible] Ac Ex WL WC WX WP Gives

/- sponsion/sponsionlaw06.DomainApart -/
theorem domainApart_walk (w : World) (a b : Nat) (A B : Option Addr) (c d : Nat) (ls ms : List SV) (ha : a < 256) (hb : b < 256) (hl : RdP w A ls) (hm : RdP w B ms) (hln : ls.length ≤ 9223372036854775807) (hmn : ms.length ≤ 9223372036854775807) :
    Gives Try.prog 3 #[.int .u8 (a : Int), .int .u8 (b : Int), .slice A ls.length c, .slice B ms.length d] w fun u w1 => u = .bool true ∧ Keep nof w w1 := by
  have M0 := Mem.start w nof
  refine Gives.enter (n := 65) Try.func3 rfl Try.ntmps3 rfl (env := [(0, .int .u8 (a : Int)), (1, .int .u8 (b : Int)), (2, .slice A ls.length c), (3, .slice B ms.length d)]) rfl ?_
  refine WC.seq ?_
  refine WC.region ?_
  refine WL.ex rfl rfl rfl (Ex.asg rfl) ?_
  refine WL.nil ?_
  refine WX.next (?_)
  refine WC.seq ?_
  refine WC.seq ?_
  refine WC.region ?_
  refine WL.ac rfl rfl rfl (Ac.call rfl Try.func13 nm13 rfl (lives06_ok w)) ?_; rintro v2 w2 ⟨rfl, K2⟩
  have M2 := M0.step K2
  refine WL.ex rfl rfl rfl (Ex.not rfl) ?_
  refine WL.ex rfl rfl rfl (Ex.mv rfl) ?_
  refine WL.yes rfl rfl rfl rfl ?_
  refine WL.ex rfl rfl rfl (Ex.mv rfl) ?_
  refine WL.yes rfl rfl rfl rfl ?_
  refine WL.ac rfl rfl rfl (Ac.call rfl Try.func14 nm14 rfl (few_ok w2 A c ls (hl.keep M2.keep) hln)) ?_; rintro v6 w6 ⟨rfl, K6⟩
  have M6 := M2.step K6
  by_cases hfl : fewP ls
  · rw [decide_eq_true hfl]
    refine WL.yes rfl rfl rfl rfl ?_
    refine WL.ex rfl rfl rfl (Ex.not rfl) ?_
    refine WL.ex rfl rfl rfl (Ex.pickF rfl rfl) ?_
    refine WL.ex rfl rfl rfl (Ex.mv rfl) ?_
    refine WL.yes rfl rfl rfl rfl ?_
    refine WL.ex rfl rfl rfl (Ex.mv rfl) ?_
    refine WL.yes rfl rfl rfl rfl ?_
    refine WL.ac rfl rfl rfl (Ac.call rfl Try.func14 nm14 rfl (few_ok w6 B d ms (hm.keep M6.keep) hmn)) ?_; rintro v11 w11 ⟨rfl, K11⟩
    have M11 := M6.step K11
    by_cases hfm : fewP ms
    · rw [decide_eq_true hfm]
      refine WL.yes rfl rfl rfl rfl ?_
      refine WL.ex rfl rfl rfl (Ex.not rfl) ?_
      refine WL.ex rfl rfl rfl (Ex.pickF rfl rfl) ?_
      refine WL.nil ?_
      refine WX.next (?_)
      refine WC.no rfl ?_
      refine WC.skip ?_
      refine WX.next (?_)
      refine WC.cut (σ := Bool) (fun s => [(0, .int .u8 (a : Int)), (1, .int .u8 (b : Int)), (2, .slice A ls.length c), (3, .slice B ms.length d), (9, .bool s)]) (fun s wr => Mem w wr nof [] ∧ (s = true ↔ a = b ∧ ls.length = ms.length)) ?_ ?_
      ·
        refine WC.region ?_
        refine WL.ex rfl rfl rfl (Ex.mv rfl) ?_
        refine WL.ex rfl rfl rfl (Ex.mv rfl) ?_
        refine WL.ex rfl rfl rfl (Ex.eqI rfl rfl) ?_
        by_cases hab : (a : Int) = b
        · rw [decide_eq_true hab]
          refine WL.ex rfl rfl rfl (Ex.mv rfl) ?_
          refine WL.yes rfl rfl rfl rfl ?_
          refine WL.ex rfl rfl rfl (Ex.mv rfl) ?_
          refine WL.yes rfl rfl rfl rfl ?_
          refine WL.ex rfl rfl rfl (Ex.len Try.underlying22 rfl) ?_
          refine WL.yes rfl rfl rfl rfl ?_
          refine WL.ex rfl rfl rfl (Ex.mv rfl) ?_
          refine WL.yes rfl rfl rfl rfl ?_
          refine WL.ex rfl rfl rfl (Ex.len Try.underlying22 rfl) ?_
          refine WL.yes rfl rfl rfl rfl ?_
          refine WL.ex rfl rfl rfl (Ex.eqI rfl rfl) ?_
          refine WL.ex rfl rfl rfl (Ex.pickT rfl rfl) ?_
          refine WL.ex rfl rfl rfl (Ex.asg rfl) ?_
          refine WL.nil ?_
          refine WX.join (_) ?_ (.cons rfl (.cons rfl (.cons rfl (.cons rfl (.cons rfl (.nil))))))
          exact ⟨M11, by simp; omega⟩
        · rw [decide_eq_false hab]
          refine WL.ex rfl rfl rfl (Ex.mv rfl) ?_
          refine WL.no (b := false) rfl rfl rfl rfl rfl ?_
          refine WL.no (b := false) rfl rfl rfl rfl rfl ?_
          refine WL.no (b := false) rfl rfl rfl rfl rfl ?_
          refine WL.no (b := false) rfl rfl rfl rfl rfl ?_
          refine WL.no (b := false) rfl rfl rfl rfl rfl ?_
          refine WL.ex rfl rfl rfl (Ex.pickF rfl rfl) ?_
          refine WL.ex rfl rfl rfl (Ex.asg rfl) ?_
          refine WL.nil ?_
          refine WX.join (_) ?_ (.cons rfl (.cons rfl (.cons rfl (.cons rfl (.cons rfl (.nil))))))
          exact ⟨M11, by simp; omega⟩
      · rintro t w28 ⟨M28, ht⟩
        refine WC.cut (σ := Bool) (fun s => [(0, .int .u8 (a : Int)), (1, .int .u8 (b : Int)), (2, .slice A ls.length c), (3, .slice B ms.length d), (9, .bool s)]) (fun s wr => Mem w wr nof [] ∧ (s = true ↔ a = b ∧ ls.map (·.l) = ms.map (·.l))) ?_ ?_
        ·
          refine WC.seq ?_
          refine WC.region ?_
          refine WL.ex rfl rfl rfl (Ex.asg rfl) ?_
          refine WL.nil ?_
          refine WX.next (?_)
          refine WC.block ?_
          refine WC.loop (σ := Nat × Bool) (fun s => [(0, .int .u8 (a : Int)), (1, .int .u8 (b : Int)), (2, .slice A ls.length c), (3, .slice B ms.length d), (9, .bool s.2), (10, .int .i64 (s.1 : Int))]) (fun s wr => s.1 ≤ ls.length ∧ Mem w wr nof [] ∧ (s.2 = true ↔ Pre a b (ls.map (·.l)) (ms.map (·.l)) s.1)) (fun s => ls.length - s.1) ((0, t)) ?_ (.cons rfl (.cons rfl (.cons rfl (.cons rfl (.cons rfl (.cons rfl (.nil))))))) ?_
          · exact ⟨by simp, M28, by simpa [Pre] using ht⟩
          rintro ⟨i, t⟩ w30 ⟨hi, M30, ht⟩
          dsimp only at hi ht
          refine WC.sub (env' := [(0, .int .u8 (a : Int)), (1, .int .u8 (b : Int)), (2, .slice A ls.length c), (3, .slice B ms.length d), (9, .bool t), (10, .int .i64 (i : Int))]) (.cons rfl (.cons rfl (.cons rfl (.cons rfl (.cons rfl (.cons rfl (.nil))))))) ?_
          refine WC.seq ?_
          refine WC.seq ?_
          refine WC.region ?_
          refine WL.ex rfl rfl rfl (Ex.mv rfl) ?_
          rcases Bool.eq_false_or_eq_true t with htt | htt <;> subst htt
          ·
            refine WL.ex rfl rfl rfl (Ex.mv rfl) ?_
            refine WL.yes rfl rfl rfl rfl ?_
            refine WL.ex rfl rfl rfl (Ex.mv rfl) ?_
            refine WL.yes rfl rfl rfl rfl ?_
            refine WL.ex rfl rfl rfl (Ex.mv rfl) ?_
            refine WL.yes rfl rfl rfl rfl ?_
            refine WL.ex rfl rfl rfl (Ex.len Try.underlying22 rfl) ?_
            refine WL.yes rfl rfl rfl rfl ?_
            refine WL.ex rfl rfl rfl (Ex.lss rfl rfl) ?_
            refine WL.ex rfl rfl rfl (Ex.pickT rfl rfl) ?_
            refine WL.nil ?_
            refine WX.next (?_)
            refine WC.cond_dec rfl (fun hc40 => ?_) (fun hc40 => ?_)
            · obtain ⟨p, hpi⟩ : ∃ p, ls[i]? = some p := ⟨_, List.getElem?_eq_getElem (by omega)⟩
              have hlm : ls.length = ms.length := by simpa using (ht.1 rfl).2.1
              obtain ⟨q, hqi⟩ : ∃ q, ms[i]? = some q := ⟨_, List.getElem?_eq_getElem (by omega)⟩
              have hpm : p ∈ ls := List.mem_of_getElem? hpi
              have hqm : q ∈ ms := List.mem_of_getElem? hqi
              obtain ⟨b1, o1, hA, _⟩ := hl.1.plain (by simp; omega)
              subst hA
              obtain ⟨b2, o2, hB, _⟩ := hm.1.plain (by simp; omega)
              subst hB
              refine WC.skip ?_
              refine WX.next (?_)
              refine WC.seq ?_
              refine WC.block ?_
              refine WC.draw (Keep nof w30.drew) [] [(0, 0), (1, 0), (2, 0), (5, 0), (6, 0), (7, 0), (3, 1), (4, 1), (8, 1), (9, 1), (10, 0), (11, 0)] mixed (by kernel_rfl) rfl (by kernel_rfl) (HQ.block (HQ.then_ (HQ.then_ (HQ.block (HQ.then_ HQ.body))))) ?_
              obtain ⟨w38, hw38⟩ : ∃ v, v = w30.drew := ⟨_, rfl⟩
              have D38 : Keep nof w30 w38 := by rw [hw38]; exact Keep.drew _ _
              have M38 := M30.step D38
              rw [← hw38]; clear hw38
              refine WP.p rfl rfl rfl rfl (fun _ => Ex.mv rfl) ?_
              refine WP.p rfl rfl rfl rfl (fun _ => Ex.mv rfl) ?_
              refine WP.p rfl rfl rfl rfl (fun _ => Ex.ia Try.underlying22 sz25 rfl rfl ⟨by omega, by omega⟩) ?_
              refine WP.p rfl rfl rfl rfl (fun _ => Ex.mv rfl) ?_
              refine WP.p rfl rfl rfl rfl (fun _ => Ex.mv rfl) ?_
              refine WP.p rfl rfl rfl rfl (fun _ => Ex.ia Try.underlying22 sz25 rfl rfl ⟨by omega, by omega⟩) ?_
              refine WP.q (Keep.refl _ _) rfl rfl rfl rfl (fun w' hS => Ex.load ty25 rfl (Rd.at1 (u := svV p) (hl.keep (M38.keep.trans hS)).1 (j := (i : Int).toNat * 1) (by simp [hpi]))) ?_
              refine WP.q (Keep.refl _ _) rfl rfl rfl rfl (fun w' hS => Ex.cvBS Try.underlying25 Try.underlying5 Try.underlying9 rfl ((hl.keep (M38.keep.trans hS)).2 p hpm)) ?_
              refine WP.q (Keep.refl _ _) rfl rfl rfl rfl (fun w' hS => Ex.load ty25 rfl (Rd.at1 (u := svV q) (hm.keep (M38.keep.trans hS)).1 (j := (i : Int).toNat * 1) (by simp [hqi]))) ?_
              refine WP.q (Keep.refl _ _) rfl rfl rfl rfl (fun w' hS => Ex.cvBS Try.underlying25 Try.underlying5 Try.underlying9 rfl ((hm.keep (M38.keep.trans hS)).2 q hqm)) ?_
              refine WP.p rfl rfl rfl rfl (fun _ => Ex.eqS rfl rfl) ?_
              refine WP.p rfl rfl rfl rfl (fun _ => Ex.asg rfl) ?_
              refine WP.nil ?_
              refine WX.normal_block (WX.next (?_))
              refine WC.region ?_
              refine WL.ex rfl rfl rfl (Ex.mv rfl) ?_
              refine WL.ex rfl rfl rfl (Ex.add rfl rfl (i64w _ (by omega) (by omega))) ?_
              refine WL.ex rfl rfl rfl (Ex.asg rfl) ?_
              refine WL.nil ?_
              refine WX.again (((i + 1, decide (p.l = q.l)) : Nat × Bool)) ?_ ?_ (.cons rfl (.cons rfl (.cons rfl (.cons rfl (.cons rfl (.cons rfl (.nil)))))))
              · (try dsimp only); omega
              · exact ⟨by dsimp only; omega, M38, by dsimp only; rw [decide_eq_true_iff]; exact pre_succ (ht.1 rfl) (by simp [hpi]) (by simp [hqi])⟩
            · obtain rfl : i = ls.length := by omega
              refine WC.exit ?_
              refine WX.exit_then (WX.exit_then (WX.exit_block (?_)))
              refine WX.join (_) ?_ (.cons rfl (.cons rfl (.cons rfl (.cons rfl (.cons rfl (.nil))))))
              first | exact ⟨M30, by rw [ht]; exact ⟨fun h => pre_eq (by simpa using h), fun h => pre_of h _⟩⟩ | exact ⟨M30, by rw [ht]; exact ⟨fun h => absurd (ht.2 h) (by simp), fun h => pre_of h _⟩⟩
          ·
            refine WL.ex rfl rfl rfl (Ex.mv rfl) ?_
            refine WL.no (b := false) rfl rfl rfl rfl rfl ?_
            refine WL.no (b := false) rfl rfl rfl rfl rfl ?_
            refine WL.no (b := false) rfl rfl rfl rfl rfl ?_
            refine WL.no (b := false) rfl rfl rfl rfl rfl ?_
            refine WL.ex rfl rfl rfl (Ex.pickF rfl rfl) ?_
            refine WL.nil ?_
            refine WX.next (?_)
            refine WC.no rfl ?_
            refine WC.exit ?_
            refine WX.exit_then (WX.exit_then (WX.exit_block (?_)))
            refine WX.join (_) ?_ (.cons rfl (.cons rfl (.cons rfl (.cons rfl (.cons rfl (.nil))))))
            first | exact ⟨M30, by rw [ht]; exact ⟨fun h => pre_eq (by simpa using h), fun h => pre_of h _⟩⟩ | exact ⟨M30, by rw [ht]; exact ⟨fun h => absurd (ht.2 h) (by simp), fun h => pre_of h _⟩⟩
        · rintro t w56 ⟨M56, ht⟩
          refine WC.seq ?_
          refine WC.draw (Keep nof w56.drew) [2] [(0, 0), (1, 0), (4, 0), (5, 0), (9, 0), (2, 2), (3, 1), (6, 2), (7, 2), (8, 0), (10, 0), (11, 0)] mixed (by kernel_rfl) rfl (by kernel_rfl) (HQ.then_ HQ.body) ?_
          obtain ⟨w57, hw57⟩ : ∃ v, v = w56.drew := ⟨_, rfl⟩
          have D57 : Keep nof w56 w57 := by rw [hw57]; exact Keep.drew _ _
          have M57 := M56.step D57
          rw [← hw57]; clear hw57
          refine WP.p rfl rfl rfl rfl (fun _ => Ex.mv rfl) ?_
          refine WP.p rfl rfl rfl rfl (fun _ => Ex.mv rfl) ?_
          refine WP.p rfl rfl rfl rfl (fun _ => Ex.mv rfl) ?_
          refine WP.p rfl rfl rfl rfl (fun _ => Ex.mv rfl) ?_
          refine WP.p rfl rfl rfl rfl (fun _ => Ex.mv rfl) ?_
          refine WP.a rfl rfl rfl rfl (Ac.call rfl Try.func15 nm15 rfl (text_ok w57 a A c ls ha (hl.keep M57.keep) (fewP_small hfl) (fewP_txt a hfl))) ?_; rintro v63 w63 N63; refine .inl ⟨rfl, Keep nof w63, ?_⟩
          have M63 := M57.new N63
          obtain ⟨A63, c63, rfl⟩ := own_slice (M63.get (i := 0) rfl)
          refine WP.q (Keep.refl _ _) rfl rfl rfl rfl (fun w' hS => Ex.cvBS Try.underlying25 Try.underlying5 Try.underlying9 rfl ((M63.rdr (i := 0) rfl).keep0 hS)) ?_
          refine WP.a rfl rfl rfl rfl (Ac.call rfl Try.func15 nm15 rfl (text_ok w63 b B d ms hb (hm.keep M63.keep) (fewP_small hfm) (fewP_txt b hfm))) ?_; rintro v65 w65 N65; refine .inr ⟨fun h => h.trans N65.keep, ?_⟩
          have M65 := M63.new N65
          obtain ⟨A65, c65, rfl⟩ := own_slice (M65.get (i := 0) rfl)
          refine WP.a rfl rfl rfl rfl (Ex.ac (Ex.cvBS Try.underlying25 Try.underlying5 Try.underlying9 rfl (M65.rdr (i := 0) rfl))) ?_; rintro _ _ ⟨rfl, rfl⟩; refine .inr ⟨id, ?_⟩
          refine WP.p rfl rfl rfl rfl (fun _ => Ex.eqS rfl rfl) ?_
          refine WP.p rfl rfl rfl rfl (fun _ => Ex.eqB Try.underlying4 rfl rfl) ?_
          refine WP.p rfl rfl rfl rfl (fun _ => Ex.asg rfl) ?_
          refine WP.nil ?_
          refine WX.next (?_)
          refine WC.ret ?_
          refine WX.ret1 rfl rfl ?_
          first | exact ⟨rfl, M65.keep⟩ | exact ⟨congrArg Value.bool (by rw [beq_iff_eq, Bool.eq_iff_iff, decide_eq_true_iff, ht]; exact ⟨fun h => txt_inj ha hb (fun p hp => by obtain ⟨q, hq, rfl⟩ := List.mem_map.1 hp; exact fewP_small hfl q hq) (fun p hp => by obtain ⟨q, hq, rfl⟩ := List.mem_map.1 hp; exact fewP_small hfm q hq) h, fun h => by rw [h.1, h.2]⟩), M65.keep⟩
    · rw [decide_eq_false hfm]
      refine WL.yes rfl rfl rfl rfl ?_
      refine WL.ex rfl rfl rfl (Ex.not rfl) ?_
      refine WL.ex rfl rfl rfl (Ex.pickF rfl rfl) ?_
      refine WL.nil ?_
      refine WX.next (?_)
      refine WC.yes rfl ?_
      refine WC.seq ?_
      refine WC.region ?_
      refine WL.ac rfl rfl rfl (Ac.call rfl Try.func13 nm13 rfl (lives06_ok w11)) ?_; rintro v72 w72 ⟨rfl, K72⟩
      have M72 := M11.step K72
      refine WL.ex rfl rfl rfl (Ex.asg rfl) ?_
      refine WL.nil ?_
      refine WX.next (?_)
      refine WC.ret ?_
      refine WX.ret_then (?_)
      refine WX.ret1 rfl rfl ?_
      first | exact ⟨rfl, M72.keep⟩ | exact ⟨congrArg Value.bool (by rw [beq_iff_eq, Bool.eq_iff_iff, decide_eq_true_iff, ht]; exact ⟨fun h => txt_inj ha hb (fun p hp => by obtain ⟨q, hq, rfl⟩ := List.mem_map.1 hp; exact fewP_small hfl q hq) (fun p hp => by obtain ⟨q, hq, rfl⟩ := List.mem_map.1 hp; exact fewP_small hfm q hq) h, fun h => by rw [h.1, h.2]⟩), M72.keep⟩
  · rw [decide_eq_false hfl]
    refine WL.yes rfl rfl rfl rfl ?_
    refine WL.ex rfl rfl rfl (Ex.not rfl) ?_
    refine WL.ex rfl rfl rfl (Ex.pickF rfl rfl) ?_
    refine WL.ex rfl rfl rfl (Ex.mv rfl) ?_
    refine WL.no (b := true) rfl rfl rfl rfl rfl ?_
    refine WL.no (b := true) rfl rfl rfl rfl rfl ?_
    refine WL.no (b := true) rfl rfl rfl rfl rfl ?_
    refine WL.ex rfl rfl rfl (Ex.pickT rfl rfl) ?_
    refine WL.nil ?_
    refine WX.next (?_)
    refine WC.yes rfl ?_
    refine WC.seq ?_
    refine WC.region ?_
    refine WL.ac rfl rfl rfl (Ac.call rfl Try.func13 nm13 rfl (lives06_ok w6)) ?_; rintro v78 w78 ⟨rfl, K78⟩
    have M78 := M6.step K78
    refine WL.ex rfl rfl rfl (Ex.asg rfl) ?_
    refine WL.nil ?_
    refine WX.next (?_)
    refine WC.ret ?_
    refine WX.ret_then (?_)
    refine WX.ret1 rfl rfl ?_
    first | exact ⟨rfl, M78.keep⟩ | exact ⟨congrArg Value.bool (by rw [beq_iff_eq, Bool.eq_iff_iff, decide_eq_true_iff, ht]; exact ⟨fun h => txt_inj ha hb (fun p hp => by obtain ⟨q, hq, rfl⟩ := List.mem_map.1 hp; exact fewP_small hfl q hq) (fun p hp => by obtain ⟨q, hq, rfl⟩ := List.mem_map.1 hp; exact fewP_small hfm q hq) h, fun h => by rw [h.1, h.2]⟩), M78.keep⟩

end Go.Proofs.Ytpngjgcbdaogmaa
